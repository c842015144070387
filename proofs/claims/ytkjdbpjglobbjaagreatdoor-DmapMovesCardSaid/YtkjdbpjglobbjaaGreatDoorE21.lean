/- A part of the proof of a law on dependencies in three formats. No condition. -/
import Derived.Test.YtkjdbpjglobbjaaGreatDoorE18
import Derived.Test.YtkjdbpjglobbjaaGreatDoorE20
set_option maxRecDepth 100000
set_option maxHeartbeats 20000000
set_option linter.unusedVariables false
set_option linter.unusedSimpArgs false
namespace Go.Proofs.YtkjdbpjglobbjaaGreatDoor
section
open Go.RowKit Go.Deep
def Te:BA:=⟨#[32,44,124,40,41,91,93]⟩
def Tf:BA:=⟨#[32,44,124,40,41,91,93,58]⟩
def Tg:BA:=⟨#[32,44,124,40,41,91,93,58,33]⟩
theorem hH (d:UInt8):(bl Te).contains d=!nB d:=by
 have:=dV (fun c=>(bl Te).contains c == !nB c) (by kernel_rfl) d;simpa using this
theorem Fp (d:UInt8):(bl Tf).contains d=!px d:=by
 have:=dV (fun c=>(bl Tf).contains c == !px c) (by kernel_rfl) d;simpa using this
theorem wE (d:UInt8):(bl Tg).contains d=!jT d:=by
 have:=dV (fun c=>(bl Tg).contains c == !jT c) (by kernel_rfl) d;simpa using this
theorem fo {q:UInt8→Bool}{s:BA}{p:Nat}{t r:LU}(hp:p≤s.size)(h:mW q ((bl s).drop p)=some (t,r)):t.length=au q ((bl s).drop p)∧(bl s).drop (p+t.length)=r∧0<t.length∧p+t.length≤s.size:=by
 obtain⟨h1,h2,h3⟩:=ru h
 have hl:t.length=au q ((bl s).drop p):=by rw[h2,List.length_take];have:=cJ q ((bl s).drop p);omega
 have:=LD q s p hp
 refine⟨hl,?_,by omega,by omega⟩
 rw[hl,←List.drop_drop,h3]
theorem OF {q:UInt8→Bool}{l:LU}(h:mW q l=none):au q l=0:=by
 unfold mW at h;split at h
 ·assumption
 ·cases h
theorem dQ {E:BA}{q:UInt8→Bool}(hE:∀ d,(bl E).contains d=!q d)(a:Nat)(s:BA)(p n:Nat)(c:Int)(w:World)(hs:s.size≤4294967280)(h:DR w a s p n c)(hh:Hid (mW q ((bl s).drop p)=none)):
  Calls Tryz.prog 205 #[.pointer (some ⟨a,0,none⟩),.string E] w fun e w'=>e=.returned (.tuple #[.string ⟨#[]⟩,.bool false])∧DR w' a s p n c∧w.grownBy w' (some a):=by
 refine(wD E q hE a s p n c w hs h).mono fun e w' ⟨h1,h2,h3⟩=>?_
 rw[OF hh.out] at h1 h2
 exact⟨h1,h2,h3⟩
theorem dn {E:BA}{q:UInt8→Bool}(hE:∀ d,(bl E).contains d=!q d)(t r:LU)(a:Nat)(s:BA)(p n:Nat)(c:Int)(w:World)(hs:s.size≤4294967280)(h:DR w a s p n c)(hh:Hid (mW q ((bl s).drop p)=some (t,r))):
  Calls Tryz.prog 205 #[.pointer (some ⟨a,0,none⟩),.string E] w fun e w'=>e=.returned (.tuple #[.string (bz t),.bool true])∧DR w' a s (p+t.length) n c∧w.grownBy w' (some a):=by
 refine(wD E q hE a s p n c w hs h).mono fun e w' ⟨h1,h2,h3⟩=>?_
 obtain⟨g1,g2,g3,g4⟩:=fo h.le hh.out
 obtain⟨k1,k2,k3⟩:=ru hh.out
 rw[←k2,dT k1] at h1
 rw[←g1] at h2
 exact⟨h1,h2,h3⟩
def OG (t:LU)(a:Nat)(s:BA)(p n:Nat)(c:Int)(w:World)(e:Ending)(w':World):Prop:=
 e=.returned (.tuple #[.string (bz t),.bool true])∧(∃ c',DR w' a s (p+t.length) n c'∧(c'=0↔c=0∧eD t=true))∧w.grownBy w' (some a)
theorem jL (a:Nat)(s:BA)(p n:Nat)(c:Int)(w:World)(hs:s.size≤4294967280)(h:DR w a s p n c)(hh:Hid (mW jT ((bl s).drop p)=none)):
  Calls Tryz.prog 207 #[.pointer (some ⟨a,0,none⟩)] w fun e w'=>e=.returned (.tuple #[.string ⟨#[]⟩,.bool false])∧DR w' a s p n c∧w.grownBy w' (some a):=by
 obtain⟨f,y,k⟩:=h.cells
 have c1:=k.c1
 have HD:=ae h;clear h k
 go_enter Tryz.func207,Tryz.ntmps207
 go_wp2_with fail
 refine(dQ wE a s p n c w hs HD.out hh).mono ?_;rintro e w1 ⟨rfl,hd,hg⟩
 have HD1:=ae hd;have HG1:=ae hg
 clear hd hg c1
 go_wp2_with fail
 go_ret2
 exact⟨rfl,HD1.out,HG1.out⟩
theorem jM (t r:LU)(a:Nat)(s:BA)(p n:Nat)(c:Int)(w:World)(hs:s.size≤4294967280)(h:DR w a s p n c)(hh:Hid (mW jT ((bl s).drop p)=some (t,r))):
  Calls Tryz.prog 207 #[.pointer (some ⟨a,0,none⟩)] w (OG t a s p n c w):=by
 obtain⟨f,y,k⟩:=h.cells
 have c1:=k.c1
 have hz:(bz t).size≤s.size:=by have:=(fo h.le hh.out).2.2.2;rw[bQ];omega
 have HD:=ae h;clear h k
 have hW:=fun W=>sX (bz t) W (by omega)
 rw[cH] at hW
 cases hd:eD t with
 | true=>
  rw[hd] at hW
  have HT:=ae hd;clear hd
  go_enter Tryz.func207,Tryz.ntmps207
  go_wp2_with fail
  refine(dn wE t r a s p n c w hs HD.out hh).mono ?_;rintro e w1 ⟨rfl,hd,hg⟩
  have HD1:=ae hd;have HG1:=ae hg
  clear hd hg c1
  go_wp2_with fail
  refine(hW _).mono ?_;rintro e w' ⟨rfl,rfl⟩
  go_wp2_with fail
  go_ret2
  exact⟨rfl,⟨c,HD1.out,by simp[HT.out]⟩,HG1.out⟩
 | false=>
  rw[hd] at hW
  have HT:=ae hd;clear hd
  go_enter Tryz.func207,Tryz.ntmps207
  go_wp2_with fail
  refine(dn wE t r a s p n c w hs HD.out hh).mono ?_;rintro e w1 ⟨rfl,hd,hg⟩
  have HD1:=ae hd;have HG1:=ae hg
  clear hd hg c1
  go_wp2_with fail
  refine(hW _).mono ?_;rintro e w' ⟨rfl,rfl⟩
  go_wp2_with fail
  refine(iz _ 10 a s _ n c w1 HD1.out).mono ?_;rintro e w2 ⟨rfl,hd,hg⟩
  have HD2:=ae hd;have HG2:=ae hg
  clear hd hg
  go_wp2_with fail
  go_ret2
  exact⟨rfl,⟨_,HD2.out,by rw[gj,HT.out];simp⟩,ap HG1.out HG2.out⟩
theorem jl {w wr w1:World}{a:Nat}{row:Option Nat}(h:w.grownBy wr (some a))(k:wr.grownBy w1 row)(hr:∀ j,row=some j→w.heap.size≤j):w.grownBy w1 (some a):=
 ⟨k.os.trans h.os,k.tape.trans h.tape,k.output.trans h.output,Nat.le_trans h.size k.size,fun j hj hne=>(k.block j (Nat.lt_of_lt_of_le hj h.size) (fun e=>by have:=hr j e.symm;omega)).trans (h.block j hj hne)⟩
structure L7 (w wr:World) (a:Nat) (s:BA) (k n:Nat) (c:Int) (xs:List BA) (A:Option Addr) (m cc:Nat):Prop where
 len:xs.length=m
 row:wr.ownsRow w.heap.size 9 1 (.slice A m cc) m (strCells xs)
 dr:DR wr a s k n c
 gr:w.grownBy wr (some a)
 lt:a<w.heap.size
theorem L7.step {w wr w':World}{a:Nat}{s:BA}{k k' n:Nat}{c c':Int}{xs:List BA}{A:Option Addr}{m cc:Nat}(h:L7 w wr a s k n c xs A m cc)(hg:wr.grownBy w' (some a))(hd:DR w' a s k' n c'):L7 w w' a s k' n c' xs A m cc:=
 ⟨h.len,dh h.row h.lt hg,hd,ap h.gr hg,h.lt⟩
theorem L7.alloc {w wr:World}{a:Nat}{s:BA}{k n:Nat}{c:Int}{xs:List BA}{A:Option Addr}{m cc:Nat}(h:L7 w wr a s k n c xs A m cc)(o:Obj):L7 w (wr.alloc o) a s k n c xs A m cc:=
 ⟨h.len,h.row.alloc o,h.dr.alloc o,vK h.gr o,h.lt⟩
theorem L7.grow {w wr w2:World}{a:Nat}{s:BA}{k n:Nat}{c:Int}{xs:List BA}{A A1:Option Addr}{m cc c1:Nat}{o:Obj}{x:BA}(h:L7 w wr a s k n c xs A m cc)
  (hr:w2.ownsRow w.heap.size 9 1 (.slice A1 (m+1) c1) (m+1) (strCells xs++[.string x]))
  (hg:(wr.alloc o).grownBy w2 (Value.slice A m cc).ownBlock):L7 w w2 a s k n c (xs++[x]) A1 (m+1) c1:=by
 have ho:=h.alloc o
 refine⟨by simp[h.len],by rw[show strCells (xs++[x])=strCells xs++[.string x] by simp[strCells]];exact hr,ho.dr.kept hg ?_,jl ho.gr hg (fun j hj=>(h.row.lt j hj).1),h.lt⟩
 intro e;have:=(h.row.lt a e.symm).1;have:=h.lt;omega
def gm (r:Option (List (LU)×LU))(a:Nat)(s:BA)(p n:Nat)(c:Int)(w:World)(e:Ending)(w':World):Prop:=
 match r with
  | none=>w.grownBy w' (some a)∧e=.returned (.tuple #[.slice none 0 0,.bool false])∧∃ p' c',DR w' a s p' n c'
  | some (L,r)=>∃ (A:Option Addr) (m cc:Nat) (xs:List BA) (p':Nat) (c':Int),e=.returned (.tuple #[.slice A m cc,.bool true])∧L7 w w' a s p' n c' xs A m cc∧xs.map bl=L∧p≤p'∧(bl s).drop p'=r∧(c'=0↔c=0∧L.all (fun x=>eD (cS x))=true)
theorem gm.no {r:Option (List (LU)×LU)}{a:Nat}{s:BA}{p n p':Nat}{c c':Int}{w w':World}(hr:r=none)(hg:w.grownBy w' (some a))(h:DR w' a s p' n c'):gm r a s p n c w (.returned (.tuple #[.slice none 0 0,.bool false])) w':=by
 subst hr;exact⟨hg,rfl,_,_,h⟩
theorem gm.yes {r:Option (List (LU)×LU)}{a:Nat}{s:BA}{p n p':Nat}{c c':Int}{w w':World}{A:Option Addr}{m cc:Nat}{xs:List BA}(hr:r=some (xs.map bl,(bl s).drop p'))(h:L7 w w' a s p' n c' xs A m cc)(hp:p≤p')(hc:c'=0↔c=0∧(xs.map bl).all (fun x=>eD (cS x))=true):gm r a s p n c w (.returned (.tuple #[.slice A m cc,.bool true])) w':=by
 subst hr;exact⟨A,m,cc,xs,p',c',rfl,h,rfl,hp,rfl,hc⟩
theorem AR {s:BA}{k m:Nat}{b:Bool}(hm:aE 33 ((bl s).drop k)=b)(hk:m=if b then k+1 else k)(ht:mW jT ((bl s).drop m)=none):jJ ((bl s).drop k)=none:=by
 unfold jJ cS;rw[hm];cases b<;>simp at hk<;>subst hk<;>simp[List.drop_drop,ht]
theorem AS {s:BA}{k m:Nat}{b:Bool}{x r:LU}(hm:aE 33 ((bl s).drop k)=b)(hk:m=if b then k+1 else k)(ht:mW jT ((bl s).drop m)=some (x,r)):jJ ((bl s).drop k)=some ((if b then [33] else [])++x,r):=by
 unfold jJ cS AI;rw[hm];cases b<;>simp at hk<;>subst hk<;>simp[List.drop_drop,ht]
theorem AU {l x r:LU}(h:jJ l=some (x,r)){b:Bool}{y:LU}(hx:x=(if b then [33] else [])++y)(hm:aE 33 l=b):cS x=y:=by
 obtain⟨z,h1,h2,h3⟩:=uo h
 rw[h3];unfold AI at h2;rw[hm] at h2;rw[hx] at h2;cases b<;>simpa using h2.symm
theorem ID (F:Nat)(a:Nat)(s:BA)(p n:Nat)(c:Int)(w:World)(hs:s.size≤4294967280)(hF:s.size-p<F)(h:DR w a s p n c):
  Calls Tryz.prog 209 #[.pointer (some ⟨a,0,none⟩)] w (gm (gh F (aJ ((bl s).drop p))) a s p n c w):=by
 obtain⟨i0,hi0,hz0,hz1,hz2⟩:=info_parts qV
 obtain⟨q,hq⟩:∃ q,p+au bf ((bl s).drop p)=q:=⟨_,rfl⟩
 have hB:=aQ a s p n c w hs h
 rw[hq] at hB
 have hlt:=h.sz
 have HQ:Hid (p≤q):=by show _≤_;omega
 obtain⟨f0,hf0⟩:∃ f0,F=f0+1:=⟨F-1,by omega⟩
 have E0:Hid (gh F (aJ ((bl s).drop p))=fF (f0+1) [] ((bl s).drop q)):=by show _=_;rw[cR,hq,zC,hf0]
 have HF0:Hid (s.size-q≤f0):=by have:=HQ.out;show _≤_;omega
 generalize gh F (aJ ((bl s).drop p))=RR at E0
 clear hq h hf0 hF
 go_enter Tryz.func209,Tryz.ntmps209
 go_wp2_with fail
 refine hB.mono ?_;rintro e w1 ⟨rfl,hd,hg⟩
 have S1:Hid (L7 w w1 a s q n c [] none 0 0):=⟨rfl,World.ownsRow_nil _ _ _ _,hd,hg,hlt⟩
 have hqs:=hd.le
 clear hd hg hB
 go_wp2_with fail
 go_loopw [2,3,4] (fun s2 s3 l wr=>∃ (k m cc f:Nat) (c':Int) (xs:List BA) (A:Option Addr),s2=.slice none 0 0∧s3=.bool false∧l=.slice A m cc∧k≤s.size∧m≤k∧Hid (L7 w wr a s k n c' xs A m cc)∧Hid (p≤k)∧Hid (RR=fF (f+1) (xs.map bl) ((bl s).drop k))∧Hid (s.size-k≤f)∧Hid (c'=0↔c=0∧(xs.map bl).all (fun x=>eD (cS x))=true)) (fun _ _ _ wr=>s.size-C9 a wr)
 case atStart=>exact⟨q,0,0,f0,c,[],none,rfl,rfl,rfl,hqs,z0,S1,HQ,E0,HF0,by simp[Hid]⟩
 case round=>
  clear S1 hqs HQ E0 HF0
  obtain⟨k,m,cc,f,c',xs,A,rfl,rfl,rfl,hk,hmk,HS,HP,HE,HF,HC⟩:=hrel
  have MA:=ae HS.out.dr.at_
  cases hm:aE 33 ((bl s).drop k) with
  | true=>
   have HM:=ae hm
   clear hm
   go_wp2_with fail
   refine(aZ 33 a s k n c' wr hs HS.out.dr HM).mono ?_;rintro e w2 ⟨rfl,hd,hg⟩
   have S2:=ae (HS.out.step hg hd);clear hd hg
   have hk1:=S2.out.dr.le
   cases ht:mW jT ((bl s).drop (k+1)) with
   | none=>
    have HT:=ae ht
    have EN:Hid (RR=none):=by show _=_;rw[HE.out];exact ry (AR HM.out rfl ht)
    clear ht
    go_wp2_with fail
    refine(jL a s (k+1) n c' w2 hs S2.out.dr HT).mono ?_;rintro e w3 ⟨rfl,hd,hg⟩
    have S3:=ae (S2.out.step hg hd);clear hd hg
    go_wp2_with fail
    go_ret2
    exact gm.no EN.out S3.out.gr S3.out.dr
   | some xr=>
    obtain⟨x,r⟩:=xr
    have HT:=ae ht
    obtain⟨t1,t2,t3,t4⟩:=fo S2.out.dr.le ht
    have A1:=ae (AS HM.out rfl ht)
    have AB:=ae (AU A1.out rfl HM.out)
    obtain⟨k2,hk2⟩:∃ k2,(k+1)+x.length+au bf ((bl s).drop ((k+1)+x.length))=k2:=⟨_,rfl⟩
    have SK:Hid (aJ r=(bl s).drop k2):=by show _=_;rw[←t2,cR,hk2]
    have HH32:Hid (aE 32 ((bl s).drop ((k+1)+x.length))=aE 32 r):=by show _=_;rw[t2]
    have HK2:Hid (k<k2):=by show _<_;omega
    have hxz:(bz x).size≤4294967280:=by rw[bQ];omega
    have hmm:m≤4294967280:=by omega
    have HB2:=ae (fun (d:Int) (W:World) (hD:DR W a s ((k+1)+x.length) n d)=>aQ a s ((k+1)+x.length) n d W hs hD)
    rw[hk2,HH32.out] at HB2
    obtain⟨Y,hY⟩:∃ Y,(⟨#[33]⟩++bz x)=Y:=⟨_,rfl⟩
    have HY:Hid (bl Y=(if true then [33] else [])++x):=by show _=_;rw[←hY];simp[bg,cH];rfl
    clear ht t1 t2 t3 t4 hk2 HH32
    go_wp2_with fail
    refine(jM x r a s (k+1) n c' w2 hs S2.out.dr HT).mono ?_;rintro e w3 ⟨rfl,⟨c2,hd,hcc⟩,hg⟩
    have S3:=ae (S2.out.step hg hd);clear hd hg
    have HC2:Hid (c2=0↔c=0∧((xs++[Y]).map bl).all (fun x=>eD (cS x))=true):=by
     have h1:=HC.out;have h2:=HY.out;have h3:=AB.out
     show _↔_
     rw[hcc,h1,List.map_append,List.all_append]
     simp only[List.map_cons,List.map_nil,List.all_cons,List.all_nil,Bool.and_true,Bool.and_eq_true]
     rw[h2,h3];exact and_assoc
    clear hcc
    go_wp2_with (at_builtin;refine ak _ rfl _ _ _ rfl w.heap.size 9 i0 _ 1 16 Tryz.underlying25 hi0 hz0 hz1 hz2 rfl (by omega) (.slice A m cc) m _ rfl (S3.out.row.alloc _) (w3.heap.size+1) (some ⟨w3.heap.size,0,none⟩) 1 1 [.string Y] rfl (fQ w3 _ _) (by simp[Value.oneCell']) (by simp only[maxLen];omega) (by omega) (by simp;have:=S3.out.gr.size;omega) ?_;intro v1 w4 o1 g1 a1)
    obtain⟨A4,c4,rfl⟩:=aG o1
    have S4:=ae (S3.out.grow (x:=Y) o1 g1)
    clear o1 g1 a1
    go_wp2_with fail
    refine(HB2.out c2 w4 S4.out.dr).mono ?_;rintro e w5 ⟨rfl,hd,hg⟩
    have S5:=ae (S4.out.step hg hd);clear hd hg
    have hk2s:=S5.out.dr.le
    cases h93:aE 93 ((bl s).drop k2) with
    | true=>
     have H93:=ae h93
     obtain⟨k3,hk3⟩:∃ k3,k2+1+au bf ((bl s).drop (k2+1))=k3:=⟨_,rfl⟩
     have EN:Hid (RR=some ((xs++[Y]).map bl,(bl s).drop k3)):=by
      show _=_
      rw[HE.out,ul A1.out (by rw[SK.out];exact h93),SK.out,List.drop_drop,cR,hk3,List.map_append,List.map_cons,List.map_nil,HY.out]
     have HB3:=ae (fun (W:World) (hD:DR W a s (k2+1) n c2)=>aQ a s (k2+1) n c2 W hs hD)
     rw[hk3] at HB3
     have HP3:Hid (p≤k3):=by have:=HP.out;have:=HK2.out;show _≤_;omega
     clear h93 hk3
     go_wp2_with fail
     refine(aZ 93 a s k2 n c2 w5 hs S5.out.dr H93).mono ?_;rintro e w6 ⟨rfl,hd,hg⟩
     have S6:=ae (S5.out.step hg hd);clear hd hg
     go_wp2_with fail
     refine(HB3.out w6 S6.out.dr).mono ?_;rintro e w7 ⟨rfl,hd,hg⟩
     have S7:=ae (S6.out.step hg hd);clear hd hg
     go_wp2_with fail
     go_ret2
     exact gm.yes EN.out S7.out HP3.out HC2.out
    | false=>
     have H93:=ae h93
     cases h32:aE 32 r with
     | true=>
      have EN:Hid (RR=fF (f-1+1) ((xs++[Y]).map bl) ((bl s).drop k2)):=by
       have hf:=HF.out;have hk':=HK2.out
       show _=_
       rw[HE.out,rz A1.out (by rw[SK.out];exact h93) h32,SK.out,List.map_append,List.map_cons,List.map_nil,HY.out,show f-1+1=f by omega]
      have HF2:Hid (s.size-k2≤f-1):=by have:=HF.out;have:=HK2.out;show _≤_;omega
      have HP2:Hid (p≤k2):=by have:=HP.out;have:=HK2.out;show _≤_;omega
      have hmk2:m+1≤k2:=by have:=HK2.out;omega
      clear h93 h32
      go_wp2_with fail
      refine(aM 93 a s k2 n c2 w5 hs S5.out.dr H93).mono ?_;rintro e w6 ⟨rfl,hd,hg⟩
      have S6:=ae (S5.out.step hg hd);clear hd hg
      go_wp2_with fail
      go_roundw
      case rel=>exact⟨k2,m+1,c4,f-1,c2,xs++[Y],A4,rfl,rfl,rfl,hk2s,hmk2,S6,HP2,EN,HF2,HC2⟩
      case measure=>rw[S6.out.dr.at_,MA.out];have:=HK2.out;omega
     | false=>
      have EN:Hid (RR=none):=by show _=_;rw[HE.out];exact um A1.out (by rw[SK.out];exact h93) h32
      clear h93 h32
      go_wp2_with fail
      refine(aM 93 a s k2 n c2 w5 hs S5.out.dr H93).mono ?_;rintro e w6 ⟨rfl,hd,hg⟩
      have S6:=ae (S5.out.step hg hd);clear hd hg
      go_wp2_with fail
      go_ret2
      exact gm.no EN.out S6.out.gr S6.out.dr
  | false=>
   have HM:=ae hm
   clear hm
   go_wp2_with fail
   refine(aM 33 a s k n c' wr hs HS.out.dr HM).mono ?_;rintro e w2 ⟨rfl,hd,hg⟩
   have S2:=ae (HS.out.step hg hd);clear hd hg
   have hk1:=S2.out.dr.le
   cases ht:mW jT ((bl s).drop k) with
   | none=>
    have HT:=ae ht
    have EN:Hid (RR=none):=by show _=_;rw[HE.out];exact ry (AR HM.out rfl ht)
    clear ht
    go_wp2_with fail
    refine(jL a s k n c' w2 hs S2.out.dr HT).mono ?_;rintro e w3 ⟨rfl,hd,hg⟩
    have S3:=ae (S2.out.step hg hd);clear hd hg
    go_wp2_with fail
    go_ret2
    exact gm.no EN.out S3.out.gr S3.out.dr
   | some xr=>
    obtain⟨x,r⟩:=xr
    have HT:=ae ht
    obtain⟨t1,t2,t3,t4⟩:=fo S2.out.dr.le ht
    have A1:=ae (AS HM.out rfl ht)
    have AB:=ae (AU A1.out rfl HM.out)
    obtain⟨k2,hk2⟩:∃ k2,k+x.length+au bf ((bl s).drop (k+x.length))=k2:=⟨_,rfl⟩
    have SK:Hid (aJ r=(bl s).drop k2):=by show _=_;rw[←t2,cR,hk2]
    have HH32:Hid (aE 32 ((bl s).drop (k+x.length))=aE 32 r):=by show _=_;rw[t2]
    have HK2:Hid (k<k2):=by show _<_;omega
    have hxz:(bz x).size≤4294967280:=by rw[bQ];omega
    have hmm:m≤4294967280:=by omega
    have HB2:=ae (fun (d:Int) (W:World) (hD:DR W a s (k+x.length) n d)=>aQ a s (k+x.length) n d W hs hD)
    rw[hk2,HH32.out] at HB2
    obtain⟨Y,hY⟩:∃ Y,(bz x)=Y:=⟨_,rfl⟩
    have HY:Hid (bl Y=(if false then [33] else [])++x):=by show _=_;rw[←hY];simp[bg,cH]
    have hYz:Y.size≤4294967280:=by rw[←hY];exact hxz
    clear ht t1 t2 t3 t4 hk2 HH32
    go_wp2_with fail
    refine(jM x r a s k n c' w2 hs S2.out.dr HT).mono ?_;rintro e w3 ⟨rfl,⟨c2,hd,hcc⟩,hg⟩
    have S3:=ae (S2.out.step hg hd);clear hd hg
    have HC2:Hid (c2=0↔c=0∧((xs++[Y]).map bl).all (fun x=>eD (cS x))=true):=by
     have h1:=HC.out;have h2:=HY.out;have h3:=AB.out
     show _↔_
     rw[hcc,h1,List.map_append,List.all_append]
     simp only[List.map_cons,List.map_nil,List.all_cons,List.all_nil,Bool.and_true,Bool.and_eq_true]
     rw[h2,h3];exact and_assoc
    clear hcc
    go_wp2_with (at_builtin;refine ak _ rfl _ _ _ rfl w.heap.size 9 i0 _ 1 16 Tryz.underlying25 hi0 hz0 hz1 hz2 rfl (by omega) (.slice A m cc) m _ rfl (S3.out.row.alloc _) (w3.heap.size+1) (some ⟨w3.heap.size,0,none⟩) 1 1 [.string Y] rfl (fQ w3 _ _) (by simp[Value.oneCell']) (by simp only[maxLen];omega) (by omega) (by simp;have:=S3.out.gr.size;omega) ?_;intro v1 w4 o1 g1 a1)
    obtain⟨A4,c4,rfl⟩:=aG o1
    have S4:=ae (S3.out.grow (x:=Y) o1 g1)
    clear o1 g1 a1
    go_wp2_with fail
    refine(HB2.out c2 w4 S4.out.dr).mono ?_;rintro e w5 ⟨rfl,hd,hg⟩
    have S5:=ae (S4.out.step hg hd);clear hd hg
    have hk2s:=S5.out.dr.le
    cases h93:aE 93 ((bl s).drop k2) with
    | true=>
     have H93:=ae h93
     obtain⟨k3,hk3⟩:∃ k3,k2+1+au bf ((bl s).drop (k2+1))=k3:=⟨_,rfl⟩
     have EN:Hid (RR=some ((xs++[Y]).map bl,(bl s).drop k3)):=by
      show _=_
      rw[HE.out,ul A1.out (by rw[SK.out];exact h93),SK.out,List.drop_drop,cR,hk3,List.map_append,List.map_cons,List.map_nil,HY.out]
     have HB3:=ae (fun (W:World) (hD:DR W a s (k2+1) n c2)=>aQ a s (k2+1) n c2 W hs hD)
     rw[hk3] at HB3
     have HP3:Hid (p≤k3):=by have:=HP.out;have:=HK2.out;show _≤_;omega
     clear h93 hk3
     go_wp2_with fail
     refine(aZ 93 a s k2 n c2 w5 hs S5.out.dr H93).mono ?_;rintro e w6 ⟨rfl,hd,hg⟩
     have S6:=ae (S5.out.step hg hd);clear hd hg
     go_wp2_with fail
     refine(HB3.out w6 S6.out.dr).mono ?_;rintro e w7 ⟨rfl,hd,hg⟩
     have S7:=ae (S6.out.step hg hd);clear hd hg
     go_wp2_with fail
     go_ret2
     exact gm.yes EN.out S7.out HP3.out HC2.out
    | false=>
     have H93:=ae h93
     cases h32:aE 32 r with
     | true=>
      have EN:Hid (RR=fF (f-1+1) ((xs++[Y]).map bl) ((bl s).drop k2)):=by
       have hf:=HF.out;have hk':=HK2.out
       show _=_
       rw[HE.out,rz A1.out (by rw[SK.out];exact h93) h32,SK.out,List.map_append,List.map_cons,List.map_nil,HY.out,show f-1+1=f by omega]
      have HF2:Hid (s.size-k2≤f-1):=by have:=HF.out;have:=HK2.out;show _≤_;omega
      have HP2:Hid (p≤k2):=by have:=HP.out;have:=HK2.out;show _≤_;omega
      have hmk2:m+1≤k2:=by have:=HK2.out;omega
      clear h93 h32
      go_wp2_with fail
      refine(aM 93 a s k2 n c2 w5 hs S5.out.dr H93).mono ?_;rintro e w6 ⟨rfl,hd,hg⟩
      have S6:=ae (S5.out.step hg hd);clear hd hg
      go_wp2_with fail
      go_roundw
      case rel=>exact⟨k2,m+1,c4,f-1,c2,xs++[Y],A4,rfl,rfl,rfl,hk2s,hmk2,S6,HP2,EN,HF2,HC2⟩
      case measure=>rw[S6.out.dr.at_,MA.out];have:=HK2.out;omega
     | false=>
      have EN:Hid (RR=none):=by show _=_;rw[HE.out];exact um A1.out (by rw[SK.out];exact h93) h32
      clear h93 h32
      go_wp2_with fail
      refine(aM 93 a s k2 n c2 w5 hs S5.out.dr H93).mono ?_;rintro e w6 ⟨rfl,hd,hg⟩
      have S6:=ae (S5.out.step hg hd);clear hd hg
      go_wp2_with fail
      go_ret2
      exact gm.no EN.out S6.out.gr S6.out.dr
end
theorem kn {l:LU}(h:bo l=true){x:UInt8}(hx:x∈l):(gU x || [43,46,45].contains x)=true:=by
 unfold bo il at h
 simp only[Bool.and_eq_true] at h
 exact List.all_eq_true.1 h.2.1 x hx
theorem jm {l:LU}(h:bo l=true):∃ a r,l=a::r∧gU a=true:=by
 unfold bo il at h
 simp only[Bool.and_eq_true] at h
 cases l with
 | nil=>simp[kZ] at h
 | cons a r=>exact⟨a,r,rfl,h.2.2⟩
theorem me {l:LU}(h:bo l=true):2≤l.length∧l.length≤64:=by
 unfold bo at h
 simp only[Bool.and_eq_true,decide_eq_true_eq] at h
 exact⟨h.1.1,h.1.2⟩
structure cL.bare (t:cL):Prop where
 name:bo t.name=true
 qual:t.qual=[]
 archs:t.archs=[]
 op:t.op≤5
 none:t.op=0→t.ver=[]
 ver:t.op≠0→aV 1 (bz t.ver)=0∧t.ver≠[]∧∀ x∈t.ver,Fi x=false
theorem Dj {l:LU}(h:bo l=true):fm l=true:=by
 obtain⟨h2,h64⟩:=me h
 obtain⟨a,r,e,ha⟩:=jm h
 have key:∀ x,(gU x || [43,46,45].contains x)=true→dm (some 0) x=some 0:=by
  intro x hx
  have:=dV (fun x=>!(gU x || [43,46,45].contains x)||(!(x==40) && !(x==41)&&fG x)) (by kernel_rfl) x
  simp only[hx,Bool.not_true,Bool.false_or,Bool.and_eq_true,Bool.not_eq_true'] at this
  unfold dm;simp only[this.1.1,this.1.2,this.2];rfl
 have hf:∀ (w:LU),(∀ x∈w,(gU x || [43,46,45].contains x)=true)→w.foldl dm (some 0)=some 0:=by
  intro w
  induction w with
  | nil=>intro _;rfl
  | cons x t ih=>intro hh;rw[List.foldl_cons,key x (hh x (by simp))];exact ih (fun y hy=>hh y (List.mem_cons_of_mem _ hy))
 have hh:up l=true:=by
  rw[e]
  have:=dV (fun x=>!gU x||qn x) (by kernel_rfl) a
  rw[ha] at this
  exact this
 unfold fm
 rw[hf l (fun x hx=>kn h hx),hh,dT ⟨by omega,h64⟩];rfl
theorem Dk {l:LU}(h:bo l=true):eB l=true:=by
 obtain⟨h2,h64⟩:=me h
 obtain⟨a,r,e,ha⟩:=jm h
 have hall:l.all iN=true:=by
  rw[List.all_eq_true]
  intro x hx
  have hb:=kn h hx
  have:=dV (fun x=>!(gU x || [43,46,45].contains x)||iN x) (by kernel_rfl) x
  rw[hb] at this
  exact this
 have hf:jI a=true:=by
  have:=dV (fun x=>!gU x||jI x) (by kernel_rfl) a
  simpa [ha] using this
 unfold eB
 rw[hall,dT ⟨by omega,h64⟩,e]
 simp[hf]
structure dR.bare (x:dR):Prop where
 name:bo x.name=true
 op:x.op≤5
 none:x.op=0→x.ver=[]
 ver:x.op≠0→aV 3 (bz x.ver)=0∧(∃ d r,x.ver=d::r∧aD d=true)∧∀ y∈x.ver,(y==32)=false
theorem dR.bare.right {x:dR}(h:x.bare):x.right:=⟨Dk h.name,by have:=h.op;omega,h.none,fun h0=>(h.ver (by omega)).1⟩
section
open Go.RowKit Go.Deep
theorem TI {l:LU}(h:mW px l=none):gK l=none:=by unfold gK;rw[h]
theorem TJ {l nm r:LU}(h:mW px l=some (nm,r))(h1:jD r=none):gK l=none:=by unfold gK;rw[h];simp only[h1]
theorem TL {l nm r q r1:LU}(h:mW px l=some (nm,r))(h1:jD r=some (q,r1))(h2:jd (aJ r1)=none):gK l=none:=by unfold gK;rw[h];simp only[h1,h2]
theorem TM {l nm r q r1 v r2:LU}{op:Nat}(h:mW px l=some (nm,r))(h1:jD r=some (q,r1))(h2:jd (aJ r1)=some (op,v,r2))(h3:gP r2=none):gK l=none:=by unfold gK;rw[h];simp only[h1,h2,h3]
theorem TN {l nm r q r1 v r2 r3:LU}{op:Nat}{ar:List (LU)}(h:mW px l=some (nm,r))(h1:jD r=some (q,r1))(h2:jd (aJ r1)=some (op,v,r2))(h3:gP r2=some (ar,r3)):gK l=some (⟨nm,q,op,v,ar⟩,r3):=by unfold gK;rw[h];simp only[h1,h2,h3]
theorem Pa {r:LU}(h:aE 58 r=false):jD r=some ([],r):=by unfold jD;rw[h];rfl
theorem Bj {r:LU}(h:aE 58 r=true):jD r=mW jT (r.drop 1):=by unfold jD;rw[h];rfl
theorem Pb {r:LU}(h:aE 40 r=false):jd r=some (0,[],r):=by unfold jd;rw[h];rfl
theorem Mk {r:LU}(h:aE 40 r=true):jd r=wv (r.drop 1):=by unfold jd;rw[h];rfl
theorem Ml {r:LU}(h:aE 91 r=false):gP r=some ([],r):=by unfold gP;rw[h];rfl
theorem IU {r:LU}(h:aE 91 r=true):gP r=gh (r.length+1) (aJ (r.drop 1)):=by unfold gP;rw[h];rfl
structure uX (w wr:World) (a:Nat) (s:BA) (k n:Nat) (c:Int) (vs:List Value):Prop where
 tb:aF wr w.heap.size vs
 dr:DR wr a s k n c
 gr:w.grownBy wr (some a)
 lt:a<w.heap.size
theorem uX.step {w wr w':World}{a:Nat}{s:BA}{k k' n n':Nat}{c c':Int}{vs:List Value}(h:uX w wr a s k n c vs)(hg:wr.grownBy w' (some a))(hd:DR w' a s k' n' c'):uX w w' a s k' n' c' vs:=
 ⟨h.tb.grownBy hg (by intro e;injection e with e;have:=h.lt;omega),hd,ap h.gr hg,h.lt⟩
theorem uX.set {w wr:World}{a:Nat}{s:BA}{k n:Nat}{c:Int}{vs:List Value}(h:uX w wr a s k n c vs)(j:Nat)(hj:j<vs.length)(v:Value):uX w (wr.setCell ⟨w.heap.size,j,none⟩ v) a s k n c (vs.set j v):=
 ⟨h.tb.set j hj v,h.dr.far (by have:=h.lt;omega) v,aU h.gr (.inr lr) v,h.lt⟩
theorem uX.start {w:World}{a:Nat}{s:BA}{k n:Nat}{c:Int}(h:DR w a s k n c)(vs:List Value)(t:TypeId):uX w (w.alloc (.cells vs.toArray t)) a s k n c vs:=
 ⟨aF.new w vs t,h.alloc _,World.grownBy_alloc w _ _,h.sz⟩
def kL (r:Option (cL×LU))(a:Nat)(s:BA)(p n:Nat)(c:Int)(w:World)(e:Ending)(w':World):Prop:=
 w.grownBy w' (some a)∧match r with
  | none=>∃ (T:cA) (p' n':Nat) (c':Int),e=.returned (.tuple #[T.val,.bool false])∧DR w' a s p' n' c'
  | some (t,r)=>∃ (T:cA) (p':Nat) (c':Int),e=.returned (.tuple #[T.val,.bool true])∧T.pl=t∧T.own w' w.heap.size∧DR w' a s p' (n+1) c'∧p<p'∧(bl s).drop p'=r∧(c'=0↔c=0∧t.right=true∧n+1≤64)
theorem uX.same {w wr:World}{a:Nat}{s:BA}{k n:Nat}{c:Int}{v0 v1 v2 v3 v4:Value}(h:uX w wr a s k n c [v0,v1,v2,v3,v4]):uX w (((((wr.setCell ⟨w.heap.size,0,none⟩ v0).setCell ⟨w.heap.size,1,none⟩ v1).setCell ⟨w.heap.size,2,none⟩ v2).setCell ⟨w.heap.size,3,none⟩ v3).setCell ⟨w.heap.size,4,none⟩ v4) a s k n c [v0,v1,v2,v3,v4]:=
 ((((h.set 0 (by simp) v0).set 1 (by simp) v1).set 2 (by simp) v2).set 3 (by simp) v3).set 4 (by simp) v4
theorem tu (ch:UInt8)(a:Nat)(s:BA)(p n:Nat)(c:Int)(w:World)(hs:s.size≤4294967280)(h:DR w a s p n c)(b:Bool)(hb:Hid (aE ch ((bl s).drop p)=b)):
  Calls Tryz.prog 126 #[.pointer (some ⟨a,0,none⟩),.int .u8 ch.toNat] w fun e w'=>e=.returned (.bool b)∧DR w' a s (if b then p+1 else p) n c∧w.grownBy w' (some a):=by
 cases b with
 | true=>exact aZ ch a s p n c w hs h hb
 | false=>exact aM ch a s p n c w hs h hb
theorem Pd (t:cL):t.right=true↔bo t.name=true∧(t.qual=[]∨eD t.qual=true)∧(t.archs.all fun a=>eD (cS a))=true∧(t.op=0∨aV 1 (bz t.ver)=0):=by
 unfold cL.right;simp[and_assoc]
end
section
open Go.RowKit
def bL (op:LU)(n:Nat):Bool:=decide ((op=eU∨op=eE)∧2≤n∨(op=oZ∨op=bS)∧(n=2∨n=3)∨(op=fA∨op=bY)∧n=2)
def Ko (n:Nat)(op:LU):Prop:=(n=0∧op=[])∨(1≤n∧((op=eU∨op=eE)∨(op=oZ∨op=bS)∧n≤2∨(op=fA∨op=bY)∧n=1))
theorem Ko.start:Ko 0 []:=.inl ⟨rfl,rfl⟩
theorem kO {p:LU}:gi p=true↔p=eU∨p=eE∨p=oZ∨p=bS∨p=fA∨p=bY:=by unfold gi;simp
theorem Ko.close {n:Nat}{op:LU}(h:Ko n op):bL op (n+1)=decide (n≠0):=by
 unfold bL
 rcases h with⟨rfl,rfl⟩ | ⟨h1,h2⟩
 ·simp[eU,eE,oZ,bS,fA,bY]
 ·rw[dT (show n≠0 by omega)]
  apply dT
  rcases h2 with h2 | ⟨h2,h3⟩ | ⟨h2,h3⟩
  ·exact .inl ⟨h2,by omega⟩
  ·exact .inr (.inl ⟨h2,by omega⟩)
  ·exact .inr (.inr ⟨h2,by omega⟩)
theorem Ko.next {n:Nat}{op p:LU}(h:Ko n op)(hf:aP op (n+1) p=true):Ko (n+1) (if n=0 then p else op):=by
 unfold aP at hf
 rcases h with⟨rfl,rfl⟩ | ⟨h1,h2⟩
 ·rw[if_pos rfl] at hf
  rw[if_pos rfl]
  refine .inr ⟨by omega,?_⟩
  rcases kO.1 hf with h | h | h | h | h | h
  ·exact .inl (.inl h)
  ·exact .inl (.inr h)
  ·exact .inr (.inl ⟨.inl h,by omega⟩)
  ·exact .inr (.inl ⟨.inr h,by omega⟩)
  ·exact .inr (.inr ⟨.inl h,rfl⟩)
  ·exact .inr (.inr ⟨.inr h,rfl⟩)
 ·rw[if_neg (by omega)] at hf
  rw[if_neg (by omega)]
  refine .inr ⟨by omega,?_⟩
  rcases dO hf with⟨h,_⟩ | ⟨h,h3,_⟩
  ·exact .inl h
  ·exact .inr (.inl ⟨h,by omega⟩)
theorem Ko.word {n:Nat}{op:LU}(h:Ko n op)(hn:n≠0):gi op=true:=by
 rcases h with⟨rfl,rfl⟩ | ⟨_,h2⟩
 ·exact absurd rfl hn
 ·rw[kO]
  rcases h2 with(h2 | h2) | ⟨h2 | h2,_⟩ | ⟨h2 | h2,_⟩
  ·exact .inl h2
  ·exact .inr (.inl h2)
  ·exact .inr (.inr (.inl h2))
  ·exact .inr (.inr (.inr (.inl h2)))
  ·exact .inr (.inr (.inr (.inr (.inl h2))))
  ·exact .inr (.inr (.inr (.inr (.inr h2))))
theorem Ko.nil {n:Nat}{op:LU}(h:Ko n op):op=[]↔n=0:=by
 constructor
 ·intro e;subst e
  by_cases hn:n=0
  ·exact hn
  ·have:=h.word hn;rw[kO] at this;revert this;simp[eU,eE,oZ,bS,fA,bY]
 ·rintro rfl
  rcases h with⟨_,h⟩ | ⟨h,_⟩
  ·exact h
  ·omega
theorem mM {op:LU}{n:Nat}(h:bL op n=true):2≤n:=by
 rcases dO h with⟨_,h⟩ | ⟨_,h⟩ | ⟨_,h⟩<;>omega
theorem kg {op:LU}(h:gi op=true):op≠[]∧op.length≤7:=by
 rcases kO.1 h with h | h | h | h | h | h<;>rw[h]<;>simp[eU,eE,oZ,bS,fA,bY]
inductive dH:aj→Prop
 | atom (nm:BA) (aop:Nat) (ver:BA) (hn:fm (bl nm)=true) (ho:aop≤5) (hv0:aop=0→ver.size=0) (hv:0<aop→aV 2 ver=0):dH (.mk ⟨#[]⟩ nm aop ver none 0 [])
 | node (op:BA) (ka:Option Addr) (kc:Nat) (kids:List aj) (ho:gi (bl op)=true) (hc:bL (bl op) kids.length=true) (hk:∀ k∈kids,dH k):dH (.mk op ⟨#[]⟩ 0 ⟨#[]⟩ ka kc kids)
theorem xU {s:BA}{f:Int}(h:aV f s=0):s.size≤64:=by
 unfold aV at h
 split at h
 ·simp at h
 ·split at h
  ·simp at h
  ·omega
theorem mi {s:BA}(h:fm (bl s)=true):1≤s.size∧s.size≤64:=by
 by_cases hz:1≤s.size∧s.size≤64
 ·exact hz
 ·rw[qp s hz] at h;cases h
theorem Kp:∀ n:Nat,(Oz n).length≤2
 | 0=>by decide
 | 1=>by decide
 | 2=>by decide
 | 3=>by decide
 | 4=>by decide
 | 5=>by decide
 | _+6=>by simp[Oz]
theorem Kq {op:LU}{i:Nat}(h:op.length≤7):(OA op i).length≤7:=by
 unfold OA
 split
 ·decide
 ·exact h
theorem tD (op:LU)(ho:op.length≤7):∀ (ks:List aj)(i:Nat),(∀ k∈ks,(bP k.pl).length+60≤200*k.cnt)→(dJ op i (nh ks)).length+51*ks.length≤200*dE ks
 | [],i,_=>by simp[nh,dJ,dE]
 | k::r,i,h=>by
  have h1:=h k (by simp)
  have h2:=tD op ho r (i+1) (fun x hx=>h x (by simp[hx]))
  have h3:=Kq (i:=i) ho
  simp only[nh,dJ,dE,List.length_append,List.length_cons]
  split
  ·simp;omega
  ·simp;omega
theorem oJ (op nm:BA)(aop:Nat)(ver:BA)(ka:Option Addr)(kc:Nat)(kids:List aj)(h:bl op=[]):(aj.mk op nm aop ver ka kc kids).pl=.atom (bl nm) aop (bl ver):=by simp[aj.pl,h]
theorem oK (op nm:BA)(aop:Nat)(ver:BA)(ka:Option Addr)(kc:Nat)(kids:List aj)(h:bl op≠[]):(aj.mk op nm aop ver ka kc kids).pl=.node (bl op) (nh kids):=by simp[aj.pl,h]
theorem dH.text {t:aj}(h:dH t):(bP t.pl).length+60≤200*t.cnt:=by
 induction h with
 | atom nm aop ver hn ho hv0 hv=>
  rw[oJ _ _ _ _ _ _ _ rfl]
  have h1:=mi hn
  have h2:ver.size≤64:=by
   by_cases h:aop=0
   ·have:=hv0 h;omega
   ·exact xU (hv (by omega))
  have h3:=Kp aop
  simp only[bP,aj.cnt]
  split
  ·rw[af];omega
  ·simp[af];omega
 | node op ka kc kids ho hc hk ih=>
  rw[oK _ _ _ _ _ _ _ (kg ho).1]
  have h1:=tD (bl op) (kg ho).2 kids 0 ih
  have h2:=mM hc
  rw[fM (t:=.mk op ⟨#[]⟩ 0 ⟨#[]⟩ ka kc kids) (by simp[aj.kids];intro h;rw[h] at h2;simp at h2)]
  simp only[bP,aj.kids,List.length_append,List.length_cons,List.length_nil]
  omega
theorem dH.kid {t k:aj}(h:dH t)(hk:k∈t.kids):dH k:=by
 cases h with
 | atom=>simp[aj.kids] at hk
 | node op ka kc kids ho hc hg=>exact hg k hk
def rZ:aj:=.mk ⟨#[]⟩ ⟨#[]⟩ 0 ⟨#[]⟩ none 0 []
theorem Pw (l:LU):(bw l).length≤l.length:=by
 have:=fk l;unfold bw;rw[List.length_drop];omega
theorem kP {l:LU}(h:aY l≠[]):(bw l).length<l.length:=Oy (fun e=>h (sW.2 e))
theorem qC (f:Nat)(l:LU):∃ r,fL (f+1) l=aY l::r∧(aY l≠[]→r=fL f (bw l)):=by
 by_cases h:aJ l=[]
 ·refine⟨[],?_,fun h2=>absurd (sW.2 h) h2⟩
  show(if aJ l=[] then [[]] else aY l::fL f (bw l))=_
  rw[if_pos h,sW.2 h]
 ·refine⟨fL f (bw l),?_,fun _=>rfl⟩
  show(if aJ l=[] then [[]] else aY l::fL f (bw l))=_
  rw[if_neg h]
end
end Go.Proofs.YtkjdbpjglobbjaaGreatDoor
