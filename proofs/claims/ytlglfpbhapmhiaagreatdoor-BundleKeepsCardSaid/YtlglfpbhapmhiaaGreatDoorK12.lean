/- A part of the proof. -/
import Derived.Deep.RegionHeld3
import Derived.Test.YtlglfpbhapmhiaaGreatDoorK07
import Derived.Test.YtlglfpbhapmhiaaGreatDoorK11
set_option maxRecDepth 100000
set_option maxHeartbeats 20000000
set_option linter.unusedVariables false
set_option linter.unusedSimpArgs false
namespace Go.Proofs.YtlglfpbhapmhiaaGreatDoor
section
open Go.RowKit
def cZ (s:BA):List BA:=(cG (bl s)).map fun p=>(⟨p.toArray⟩:BA)
theorem xK (l:List BA):(l.map bl).map (fun p=>(⟨p.toArray⟩:BA))=l:=by
 rw[List.map_map];conv=>rhs;rw[←List.map_id l]
 apply List.map_congr_left;intro a _;apply eM;simp[bl]
theorem md (s:BA):Lib.splitB ⟨#[47]⟩ 0 (Lib.countB s ⟨#[47]⟩) s=cZ s:=by
 have h:=Lib.splitB_data ⟨#[47]⟩ 0 (Lib.countB s ⟨#[47]⟩) s
 have h2:Lib.countB s ⟨#[47]⟩=(bl s).count 47:=by
  show Lib.count _ _=_
  exact Lib.count_one 47 (bl s)
 have h3:(Lib.splitB ⟨#[47]⟩ 0 (Lib.countB s ⟨#[47]⟩) s).map bl=cG (bl s):=by
  refine Eq.trans h ?_
  rw[h2];exact lV _ (bl s) rfl
 unfold cZ
 rw[←h3,xK]
theorem Di (s:BA)(w:World)(hG:Gl w)(hs:s.size≤4294967280):
  Calls Tryz.prog 132 #[.string s,.string ⟨#[47]⟩] w fun e w'=>e=.returned (.slice (some ⟨w.heap.size,0,none⟩) (cZ s).length (cZ s).length)∧Rd w' 1 (some ⟨w.heap.size,0,none⟩) (cZ s).length (az (cZ s))∧Below w.heap.size w w':=by
 obtain⟨m,hm⟩:=hG.ml
 refine(Tryz.strings_Split s ⟨#[47]⟩ m w (by omega) hm (by decide)).mono fun e w' ⟨he,hw⟩=>?_
 have hl:(cZ s).length=Lib.countB s ⟨#[47]⟩+1:=by
  rw[←md];exact Lib.splitB_all ⟨#[47]⟩ (by decide) 0 _ s rfl
 rw[md] at hw
 rw[hl,hw]
 refine⟨he,⟨by simp[az,hl],fun _=>⟨_,0,rfl,fun j u hu=>?_⟩⟩,bR.alloc lr _⟩
 simpa [az] using hu
theorem uz (s:BA)(w:World):
  Calls Tryz.prog 91 #[.string s,.string ⟨#[0]⟩] w fun e w'=>e=.returned (.bool ((bl s).contains 0))∧w=w':=
 (Tryz.strings_Contains_one s 0 w).mono fun e w' ⟨he,hw⟩=>⟨by
  rw[he];congr 2
  cases h:(bl s).contains 0
  ·have:=eY s 0 h;unfold tB at this;simp only[bl] at this;simp;omega
  ·have:=fN s 0 h;unfold tB at this;simp only[bl] at this;simpa using this,hw.symm⟩
theorem Dj (w:World)(s:BA):ji (w.alloc (.cells #[.string s] 9)) (w.heap.size+1) 1 (some ⟨w.heap.size,0,none⟩) 1 [.string s]:=by
 refine⟨rfl,fun _=>⟨_,rfl,by simp,fun j u hu=>?_⟩⟩
 cases j with
 | zero=>simp at hu;subst hu;simp[Addr.add]
 | succ j=>simp at hu
theorem ns (p:BA):xo (bl p)=!(p.toList.isEmpty||p.toList == [46]||p.toList == [46,46]):=by
 rw[ai];unfold xo
 rw[bI];simp
theorem xL (s:BA)(k:Nat)(x:BA)(h:(cZ s)[k]?=some x):(cG (bl s))[k]?=some (bl x):=by
 unfold cZ at h
 rw[List.getElem?_map] at h
 obtain⟨p,hp,rfl⟩:=Option.map_eq_some_iff.1 h
 rw[hp,io]
theorem px (s:BA):(cZ s).length=(cG (bl s)).length:=by simp[cZ]
theorem me:∀ (l:LU),(cG l).length≤l.length+1
 | []=>by simp[cG]
 | c::r=>by
  have:=me r
  by_cases hc:c=47
  ·rw[cG,if_pos hc];simp;omega
  ·obtain⟨p,ps,h1,h2⟩:=iD hc r
   rw[h1] at this;rw[h2];simp at *;omega
theorem xM {α:Type}{p:α→Bool}{l:List α}{k:Nat}{x:α}(h:l[k]?=some x)(h0:(l.take k).all p=true)(hx:p x=true):(l.take (k+1)).all p=true:=by
 obtain⟨hk,he⟩:=gS h
 rw[tS hk,List.all_append,h0,he];simp[hx]
theorem kj {α:Type}{p:α→Bool}{l:List α}{k:Nat}{x:α}(h:l[k]?=some x)(hx:p x=false):l.all p=false:=by
 rw[List.all_eq_false];exact⟨x,gM h,by simp[hx]⟩
theorem iH (s:BA)(w:World)(hG:Gl w)(hs:s.size≤9223372036854775807):
  Calls Tryz.prog 88 #[.string s] w fun e w'=>e=.returned (.bool (eh (bl s)))∧Below w.heap.size w w':=by
 have HG:=ae hG;clear hG
 by_cases h1:s.size<1
 ·have E:Hid (eh (bl s)=false):=by show _=_;unfold eh;rw[ah,show decide (1≤s.size)=false from dF (by omega)];rfl
  go_enter Tryz.func88,Tryz.ntmps88
  go_wp2_with fail
  go_ret
  exact⟨af E.out.symm,bR⟩
 by_cases h2:200<s.size
 ·have E:Hid (eh (bl s)=false):=by show _=_;unfold eh;rw[ah,show decide (s.size≤200)=false from dF (by omega)];simp
  go_enter Tryz.func88,Tryz.ntmps88
  go_wp2_with fail
  go_ret
  exact⟨af E.out.symm,bR⟩
 go_enter Tryz.func88,Tryz.ntmps88
 go_wp2_with fail
 refine(uz _ _).mono ?_;rintro e w' ⟨rfl,rfl⟩
 cases h0:(bl s).contains 0
 ·go_wp2_with fail
  refine(Di s _ HG.out (by omega)).mono ?_;rintro e w1 ⟨rfl,hr,hb⟩
  have HR:=ae hr;have HB:=ae hb;clear hr hb
  have hN:(cZ s).length≤201:=by rw[px];have:=me (bl s);rw[ah] at this;omega
  have E:Hid (eh (bl s)=(cG (bl s)).all xo):=by show _=_;unfold eh;rw[h0,ah,show decide (1≤s.size)=true from dT (by omega),show decide (s.size≤200)=true from dT (by omega)];simp
  have HL:=ae (px s)
  clear h0
  go_wp2_with fail
  go_loop [20] (fun i=>∃ k:Nat,k≤(cZ s).length∧i=.int .i64 k∧Hid (((cG (bl s)).take k).all xo=true)) (fun i=>(cZ s).length-(intOf i).toNat)
  case atStart=>exact⟨0,z0,rfl,by simp[Hid]⟩
  case round=>
   obtain⟨k,hk,rfl,HA⟩:=hrel
   by_cases hlt:k<(cZ s).length
   ·obtain⟨x,hx⟩:∃ x,(cZ s)[k]?=some x:=⟨_,gG hlt⟩
    obtain⟨b,off,hA,he⟩:=HR.out.str k x hx
    have hix:=fun W=>aH (T:=22) (E:=9) (sz:=1) (c:=(cZ s).length) Tryz.underlying22 rfl Tryz.sizeOf9 hA hlt W
    simp only[Nat.mul_one] at hix
    have HX:=ae (xL s k x hx)
    clear hx hA
    go_wp2_with fail
    ·go_ret
     exact⟨af (by rw[E.out];exact(kj HX.out (by rw[ns];simp_all)).symm),HB.out⟩
    ·go_ret
     exact⟨af (by rw[E.out];exact(kj HX.out (by rw[ns];simp_all)).symm),HB.out⟩
    ·go_ret
     exact⟨af (by rw[E.out];exact(kj HX.out (by rw[ns];simp_all)).symm),HB.out⟩
    ·go_round
     case rel=>exact⟨k+1,by omega,by go_num,ae (xM HX.out HA.out (by rw[ns];simp_all))⟩
     case measure=>simp[intOf];omega
   ·go_wp2_with fail
    go_ret
    exact⟨af (by rw[E.out];have:=HA.out;rw[tL (by rw[←HL.out];omega)] at this;exact this.symm),HB.out⟩
 ·have E:Hid (eh (bl s)=false):=by show _=_;unfold eh;rw[h0];simp
  go_wp2_with fail
  go_ret
  exact⟨af E.out.symm,bR⟩
def oJ (s:BA):BA:=⟨((fK (bl s)).getD []).toArray⟩
def Dt (s:BA):Bool:=(fK (bl s)).isSome
def Du (s:BA):Value:=.tuple #[.string (oJ s),.bool (Dt s)]
theorem uD {s:BA}(h:fK (bl s)=none):Du s=.tuple #[.string ⟨#[]⟩,.bool false]:=by simp[Du,oJ,Dt,h]
theorem Dv {s:BA}{i:Nat}(h:fK (bl s)=some ((bl s).take i)):Du s=.tuple #[.string (s.extract 0 i),.bool true]:=by
 simp only[Du,oJ,Dt,h,Option.getD_some,Option.isSome_some]
 congr 3
 apply congrArg;apply eM;rw[io,du]
theorem vZ (s:BA)(w:World)(hG:Gl w)(hs:s.size≤4294967280):
  Calls Tryz.prog 87 #[.string s] w fun e w'=>e=.returned (Du s)∧Below w.heap.size w w':=by
 have HG:=ae hG;clear hG
 cases hl:dB 47 (bl s) with
 | none=>
  have E:Hid (fK (bl s)=none):=by show _=_;unfold fK;rw[hl];simp
  have HL:=ae hl;clear hl
  go_enter Tryz.func87,Tryz.ntmps87
  go_wp2_with fail
  refine(cO s 47 _ (by omega) HL).mono ?_;rintro e w' ⟨rfl,rfl⟩
  go_wp2_with fail
  go_ret2
  exact⟨by rw[uD E.out];rfl,bR⟩
 | some i=>
  have hi:i<s.size:=by have:=nf _ _ _ hl;rw[ah] at this;exact this
  cases hp:eh (bl s)
  ·have E:Hid (fK (bl s)=none):=by show _=_;unfold fK;rw[hp];rfl
   have HL:=ae hl;have HP:=ae hp;clear hl hp
   go_enter Tryz.func87,Tryz.ntmps87
   go_wp2_with fail
   refine(bJ s 47 i _ (by omega) HL).mono ?_;rintro e w' ⟨rfl,rfl⟩
   go_wp2_with fail
   refine(iH s _ HG.out (by omega)).mono ?_;rintro e w1 ⟨rfl,hb⟩
   rw[HP.out]
   have HB:=ae hb;clear hb
   go_wp2_with fail
   go_ret2
   exact⟨by rw[uD E.out];rfl,HB.out⟩
  ·have E:Hid (fK (bl s)=some ((bl s).take i)):=by show _=_;unfold fK;rw[hp,hl];rfl
   have HL:=ae hl;have HP:=ae hp;clear hl hp
   go_enter Tryz.func87,Tryz.ntmps87
   go_wp2_with fail
   refine(bJ s 47 i _ (by omega) HL).mono ?_;rintro e w' ⟨rfl,rfl⟩
   go_wp2_with fail
   refine(iH s _ HG.out (by omega)).mono ?_;rintro e w1 ⟨rfl,hb⟩
   rw[HP.out]
   have HB:=ae hb;clear hb
   go_wp2_with fail
   go_ret2
   exact⟨by rw[Dv E.out];rfl,HB.out⟩
theorem Ll {c:UInt8}:∀ (l:LU)(k:Nat),(l.take k).contains c=false→l[k]?=some c→Lib.cut l [c]=(l.take k,l.drop (k+1),true):=by
 intro l k h0 h1
 have hk:k<l.length:=(gS h1).1
 have hi:Lib.indexByte l c=k:=by
  have key:∀ (l:LU)(k:Nat),(l.take k).contains c=false→l[k]?=some c→Lib.indexByte l c=k:=by
   intro l
   induction l with
   | nil=>intro k _ h;simp at h
   | cons b r ih=>
    intro k h0 h1
    cases k with
    | zero=>simp at h1;subst h1;simp[Lib.indexByte]
    | succ k=>
     simp at h1
     rw[List.take_succ_cons,List.contains_cons,Bool.or_eq_false_iff] at h0
     have hb:(b==c)=false:=by have:=h0.1;simp at this ⊢;exact fun e=>this e.symm
     have hr:=ih k h0.2 h1
     simp only[Lib.indexByte,hb,hr]
     rw[if_neg (by simp),if_neg (by simp;try omega)];omega
  exact key l k h0 h1
 unfold Lib.cut
 rw[Lib.index_one,hi]
 simp
theorem GI {c:UInt8}(l:LU)(h:l.contains c=false):Lib.cut l [c]=(l,[],false):=by
 have hi:Lib.indexByte l c=-1:=by
  have h1:=qS ⟨l.toArray⟩ c (by simpa [bl] using h)
  simpa [tB,bl] using h1
 unfold Lib.cut
 rw[Lib.index_one,hi]
 simp
theorem bK (A B:OA)(c d:Nat)(l m:List BA)(w:World)(h1:Rd w 1 A l.length (az l))(h2:Rd w 1 B m.length (az m))(n1:l.length≤9223372036854775807)(n2:m.length≤9223372036854775807):
  Calls Tryz.prog 16 #[.slice A l.length c,.slice B m.length d] w fun e w'=>e=.returned (.bool (nW iU l m))∧Below w.heap.size w w':=by
 have H1:=ae h1;clear h1
 have H2:=ae h2;clear h2
 by_cases hl:l.length=m.length
 ·have hb:((l.length:Int) != (m.length:Int))=false:=by simp[hl]
  have HL:=ae hl
  have hle:l.length≤m.length:=by omega
  clear hl
  go_enter Tryz.func16,Tryz.ntmps16
  go_wp2_with fail
  go_loopw [5] (fun i wr=>∃ (k q:Nat),k≤l.length∧i=.int .i64 k∧wr=w.drewN q∧Hid (∀ (i:Nat)(x y:BA),i<k→l[i]?=some x→m[i]?=some y→iU x y=true)) (fun i _=>l.length-(intOf i).toNat)
  case atStart=>exact⟨0,0,z0,rfl,rfl,fun i x y h=>absurd h (Nat.not_lt_zero _)⟩
  case round=>
   obtain⟨k,q,hk,rfl,rfl,HK⟩:=hrel
   by_cases hlt:k<l.length
   ·obtain⟨x,hx⟩:∃ x,l[k]?=some x:=⟨_,gG hlt⟩
    have hlt2:k<m.length:=by omega
    obtain⟨y,hy⟩:∃ y,m[k]?=some y:=⟨_,gG hlt2⟩
    obtain⟨b,off,hA,e0⟩:=H1.out.str k x hx
    obtain⟨b',off',hA',f0⟩:=H2.out.str k y hy
    have hix:=fun W=>aH (T:=22) (E:=9) (sz:=1) (c:=c) Tryz.underlying22 rfl Tryz.sizeOf9 hA hlt W
    have hix':=fun W=>aH (T:=22) (E:=9) (sz:=1) (c:=d) Tryz.underlying22 rfl Tryz.sizeOf9 hA' hlt2 W
    simp only[Nat.mul_one] at hix hix'
    have HX:=ae hx;have HY:=ae hy
    clear hx hy hA hA'
    cases hxy:iU x y
    ·have HXY:=ae hxy;unfold iU at hxy
     go_wp2_with fail
     go_quiet (fail)
     go_wp2_with fail
     go_ret
     exact⟨af (nX iU l m k x y HX.out HY.out HXY.out).symm,aq (aq bR _) _⟩
    ·have HXY:=ae hxy;obtain rfl:=Lu hxy
     clear hxy
     go_wp2_with fail
     go_quiet (fail)
     go_wp2_with fail
     have FK:Hid (∀ (i:Nat)(x y:BA),i<k+1→l[i]?=some x→m[i]?=some y→iU x y=true):=by
      intro i x' y' hi hx' hy'
      rcases Nat.lt_succ_iff_lt_or_eq.1 hi with h | h
      ·exact HK.out i x' y' h hx' hy'
      ·subst h;rw[HX.out] at hx';rw[HY.out] at hy';injection hx' with hx';injection hy' with hy';subst hx' hy';exact HXY.out
     go_roundw
     case rel=>exact⟨k+1,_,by omega,by go_num,rfl,FK⟩
     case measure=>simp[intOf];omega
   ·go_wp2_with fail
    go_ret
    exact⟨af (kZ iU l m HL.out (fun i x y hx hy=>HK.out i x y (by have:=(gS hx).1;omega) hx hy)).symm,aq bR _⟩
 ·have hb:((l.length:Int) != (m.length:Int))=true:=by simp;omega
  have HL:=ae hl;clear hl
  go_enter Tryz.func16,Tryz.ntmps16
  go_wp2_with fail
  go_ret
  exact⟨af (iT iU l m HL.out).symm,bR⟩
end
section
open Go.RowKit Go.Maps
def ja (prev:Option ax)(f:ax):Bool:=match prev with
 | none=>true
 | some g=>decide (bl g.path<bl f.path)
def jC (pre:List ax)(f:ax):Bool:=Dt f.path&&pre.any (fun g=>decide (g.path=oJ f.path)&&decide (g.kind≠2))
def kx (fmt:Int)(pre:List ax)(f:ax):Int:=
 if (eh (bl f.path)&&fM (bl f.path))=false then 10 else if ja pre.getLast? f=false then 15 else if ¬ (f.kind=1∨f.kind=2∨f.kind=3) then 9
 else if cj fmt f=false then 1 else if jC pre f=true then 9 else 0
def ee (fmt:Int):List ax→List ax→Option (BA×Int)
 | _,[]=>none
 | pre,f::r=>if kx fmt pre f=0 then ee fmt (pre++[f]) r else some (f.path,kx fmt pre f)
theorem yX {fmt:Int}{fs:List ax}{k:Nat}{f:ax}(h:fs[k]?=some f)(h0:ee fmt [] fs=ee fmt (fs.take k) (fs.drop k))(he:kx fmt (fs.take k) f=0):ee fmt [] fs=ee fmt (fs.take (k+1)) (fs.drop (k+1)):=by
 obtain⟨hk,hf⟩:=gS h
 rw[h0,List.drop_eq_getElem_cons hk,hf,ee,if_pos he,tS hk,hf]
theorem gC {fmt:Int}{fs:List ax}{k:Nat}{f:ax}(h:fs[k]?=some f)(h0:ee fmt [] fs=ee fmt (fs.take k) (fs.drop k))(he:kx fmt (fs.take k) f≠0):ee fmt [] fs=some (f.path,kx fmt (fs.take k) f):=by
 obtain⟨hk,hf⟩:=gS h
 rw[h0,List.drop_eq_getElem_cons hk,hf,ee,if_neg he]
theorem Bj {fmt:Int}{fs:List ax}{k:Nat}(hk:fs.length≤k)(h0:ee fmt [] fs=ee fmt (fs.take k) (fs.drop k)):ee fmt [] fs=none:=by
 rw[h0,List.drop_of_length_le hk];rfl
def gR (fmt:Int)(fs:List ax):BA×Int:=if 512<fs.length then (⟨#[102,105,108,101,115]⟩,4) else (ee fmt [] fs).getD (⟨#[]⟩,0)
def mR (fmt:Int)(fs:List ax):Value:=.tuple #[.string (gR fmt fs).1,.int .i64 (gR fmt fs).2]
structure qg (pre:List ax) (g:BA→Option Value):Prop where
 sorted:(iS pre).Pairwise (fun s t=>bl s<bl t)
 kind:∀ x∈pre,g x.path=some (.int .i64 x.kind)
 mem:∀ s,g s≠none→s∈iS pre
theorem qg.nil:qg [] (fun _=>none):=⟨by simp[iS],by simp,by simp⟩
theorem qg.less {pre:List ax}{g:BA→Option Value}(h:qg pre g){f:ax}(ho:ja pre.getLast? f=true):∀ x∈pre,bl x.path<bl f.path:=by
 intro x hx
 cases hl:pre.getLast? with
 | none=>rw[List.getLast?_eq_none_iff] at hl;subst hl;simp at hx
 | some y=>
  rw[hl] at ho
  have hyf:bl y.path<bl f.path:=dO ho
  obtain⟨ys,rfl⟩:=List.getLast?_eq_some_iff.1 hl
  rcases List.mem_append.1 hx with hx | hx
  ·have hs:=h.sorted
   rw[show iS (ys++[y])=iS ys++[y.path] by simp[iS],List.pairwise_append] at hs
   exact Cq (hs.2.2 x.path (List.mem_map.2 ⟨x,hx,rfl⟩) y.path (by simp)) hyf
  ·rw[List.mem_singleton.1 hx];exact hyf
theorem qg.put {pre:List ax}{g:BA→Option Value}(h:qg pre g){f:ax}(ho:ja pre.getLast? f=true):qg (pre++[f]) (fun x=>if x=f.path then some (.int .i64 f.kind) else g x):=by
 have hl:=h.less ho
 refine⟨?_,fun x hx=>?_,fun s hs=>?_⟩
 ·rw[show iS (pre++[f])=iS pre++[f.path] by simp[iS],List.pairwise_append]
  refine⟨h.sorted,by simp,fun a ha b hb=>?_⟩
  obtain⟨x,hx,rfl⟩:=List.mem_map.1 ha
  rw[List.mem_singleton.1 hb];exact hl x hx
 ·rcases List.mem_append.1 hx with hx | hx
  ·have hne:x.path≠f.path:=fun e=>by have:=hl x hx;rw[e] at this;exact rN _ this
   simp only[if_neg hne];exact h.kind x hx
  ·rw[List.mem_singleton.1 hx];simp
 ·by_cases e:s=f.path
  ·subst e;simp[iS]
  ·simp only[if_neg e] at hs
   have:=h.mem s hs
   simp only[iS,List.map_append,List.mem_append] at this ⊢
   exact .inl this
theorem qg.par {pre:List ax}{g:BA→Option Value}(h:qg pre g)(f:ax)(hp:Dt f.path=true):
  (g (oJ f.path)=none∧jC pre f=false)∨∃ k:Int,g (oJ f.path)=some (.int .i64 k)∧jC pre f=decide (k≠2):=by
 unfold jC
 rw[hp]
 cases hg:g (oJ f.path) with
 | none=>
  refine .inl ⟨rfl,?_⟩
  rw[Bool.true_and,List.any_eq_false]
  intro x hx hc
  rw[Bool.and_eq_true] at hc
  have he:=dO hc.1
  have:=h.kind x hx
  rw[he,hg] at this;cases this
 | some v=>
  obtain⟨x,hx,he⟩:=List.mem_map.1 (h.mem (oJ f.path) (by rw[hg];simp))
  have hk:=h.kind x hx
  have he:x.path=oJ f.path:=he
  rw[he,hg] at hk
  injection hk with hk
  subst hk
  refine .inr ⟨x.kind,rfl,?_⟩
  rw[Bool.true_and,bI,List.any_eq_true,decide_eq_true_iff]
  constructor
  ·rintro⟨y,hy,hc⟩
   rw[Bool.and_eq_true] at hc
   have hye:=dO hc.1
   have hyk:=dO hc.2
   have h1:=h.kind y hy
   have h2:=h.kind x hx
   rw[hye] at h1
   rw[he,h1] at h2
   injection h2 with h2
   injection h2 with _ h2
   rw[←h2];exact hyk
  ·intro hk
   exact⟨x,hx,by rw[dT he,dT hk];rfl⟩
theorem JS (s:BA):(oJ s).size≤s.size:=by
 have h:(bl (oJ s)).length≤(bl s).length:=by
  unfold oJ;rw[io]
  unfold fK
  split
  ·cases dB 47 (bl s) with
   | none=>simp
   | some i=>simp only[Option.map_some,Option.getD_some];rw[List.length_take];omega
  ·simp
 rw[ah,ah] at h;exact h
theorem JT (w:World):(zeroValue 3).run Tryz.prog w=.ok (.int .i64 0) w:=by kernel_rfl
theorem oe (f:ax)(pre:List ax)(g:BA→Option Value)(mb B n:Nat)(w:World)(hG:Gl w)(hc:w.cell? ⟨mb,0,none⟩=some (.map (some B)))(hlt:mb<w.heap.size)(hM:aZ w B n g)(hK:qg pre g)(hs:f.path.size≤4294967280):
  Calls Tryz.prog 86 #[.string f.path,.pointer (some ⟨mb,0,none⟩)] w fun e w'=>e=.returned (.bool (!jC pre f))∧Below w.heap.size w w':=by
 have HG:=ae hG;have HM:=ae hM;have HK:=ae hK;have HC:=ae hc
 clear hG hM hK hc
 go_enter Tryz.func86,Tryz.ntmps86
 go_wp2_with fail
 refine(vZ f.path _ HG.out hs).mono ?_;rintro e w1 ⟨rfl,hb⟩
 have HB:=ae hb
 have hc1:w1.cell? ⟨mb,0,none⟩=some (.map (some B)):=(hb.cell (p:=⟨mb,0,none⟩) hlt).trans HC.out
 have hpl:=JS f.path
 have hlk:=(HM.out.below hb).look_ok Tryz.underlying104 JT (oJ f.path) (by unfold maxLen;omega)
 clear hb
 unfold Du
 cases hp:Dt f.path
 ·have E:Hid (jC pre f=false):=by show _=_;unfold jC;rw[hp];rfl
  clear hp
  go_wp2_with fail
  go_ret
  exact⟨af (by rw[E.out];rfl),HB.out⟩
 ·rcases HK.out.par f hp with⟨h1,h2⟩ | ⟨k,h1,h2⟩
  ·rw[h1] at hlk
   simp only[Option.getD_none,Option.isSome_none] at hlk
   have E:=ae h2
   clear h1 h2 hp
   go_wp2_with fail
   go_ret
   exact⟨af (by rw[E.out];rfl),HB.out⟩
  ·rw[h1] at hlk
   simp only[Option.getD_some,Option.isSome_some] at hlk
   by_cases hk:k=2
   ·have hk1:(k==2)=true:=by simpa using hk
    have E:Hid (jC pre f=false):=by show _=_;rw[h2];simp[hk]
    clear h1 h2 hp hk
    go_wp2_with fail
    go_ret
    exact⟨af (by rw[E.out];rfl),HB.out⟩
   ·have hk1:(k==2)=false:=by simpa using hk
    have E:Hid (jC pre f=true):=by show _=_;rw[h2];simp[hk]
    clear h1 h2 hp hk
    go_wp2_with fail
    go_ret
    exact⟨af (by rw[E.out];rfl),HB.out⟩
theorem gD {fmt:Int}{fs:List ax}{p:BA}{e:Int}(hl:¬ 512<fs.length)(h:ee fmt [] fs=some (p,e)):mR fmt fs=.tuple #[.string p,.int .i64 e]:=by
 unfold mR gR;rw[if_neg hl,h];rfl
theorem EL {fmt:Int}{fs:List ax}(hl:¬ 512<fs.length)(h:ee fmt [] fs=none):mR fmt fs=.tuple #[.string ⟨#[]⟩,.int .i64 0]:=by
 unfold mR gR;rw[if_neg hl,h];rfl
theorem EP {fs:List ax}{k:Nat}{f:ax}(h:fs[k]?=some f):(fs.take (k+1)).getLast?=some f:=by
 obtain⟨hk,hf⟩:=gS h
 rw[tS hk,hf];simp
theorem Hy (s t:BA):(Op.bytesLess s.toList t.toList||s.toList==t.toList)=!decide (bl t<bl s):=by
 rw[dj,fi,ai,ai]
 by_cases h:bl t<bl s
 ·rw[dT h]
  have h1:¬ bl s<bl t:=fun h'=>rN _ (Cq h h')
  have h2:s≠t:=fun e=>by rw[e] at h;exact rN _ h
  simp[h1,h2]
 ·rw[dF h]
  by_cases e:s=t
  ·simp[e]
  ·have:bl s<bl t:=oQ h (fun h'=>e (eM h').symm)
   simp[this]
structure Jf (w wr:World) (k:Nat) (pre:List ax) (g:BA→Option Value):Prop where
 map:aZ wr w.heap.size k g
 inv:qg pre g
 cell:wr.cell? ⟨w.heap.size+1,0,none⟩=some (.map (some w.heap.size))
 bel:Below w.heap.size w wr
 sz:w.heap.size+2≤wr.heap.size
theorem Jf.below {w wr w':World}{k:Nat}{pre:List ax}{g:BA→Option Value}(h:Jf w wr k pre g)(hb:Below wr.heap.size wr w'):Jf w w' k pre g:=
 ⟨h.map.below hb,h.inv,(hb.cell (p:=⟨w.heap.size+1,0,none⟩) (by have:=h.sz;show w.heap.size+1<_;omega)).trans h.cell,ap h.bel hb,Nat.le_trans h.sz hb.size⟩
theorem Jf.start (w:World):Jf w ((w.alloc (.map #[] 0)).alloc (.cells #[.map (some w.heap.size)] 104)) 0 [] (fun _=>none):=
 ⟨(aZ.made w).alloc _,qg.nil,by simp,(bR.alloc lr _).alloc (by simp) _,by simp⟩
theorem Jf.put {w wr w':World}{k:Nat}{pre:List ax}{g:BA→Option Value}{f:ax}(h:Jf w wr k pre g)(ho:ja pre.getLast? f=true)(hm:aZ w' w.heap.size (k+1) (fun x=>if x=f.path then some (.int .i64 f.kind) else g x))(hg:wr.grownBy w' (some w.heap.size)):Jf w w' (k+1) (pre++[f]) (fun x=>if x=f.path then some (.int .i64 f.kind) else g x):=
 ⟨hm,h.inv.put ho,hg.cell h.cell (by simp),h.bel.grown hg h.bel.size (fun j hj=>by injection hj with hj;omega),Nat.le_trans h.sz hg.size⟩
theorem oZ (fmt:Int)(hfmt:fmt=1∨fmt=2∨fmt=3)(A:OA)(c:Nat)(fs:List ax)(w:World)(hG:Gl w)(hr:Rd w 8 A fs.length (fs.flatMap ax.cells))(hn:fs.length≤9223372036854775807)(hf:∀ x∈fs,x.path.size≤4294967280∧x.owner.size≤4294967280∧x.group.size≤4294967280∧x.link.size≤4294967280∧x.sum.size≤4294967280):
  Calls Tryz.prog 49 #[.int .i64 fmt,.slice A fs.length c] w fun e w'=>e=.returned (mR fmt fs)∧Below w.heap.size w w':=by
 have HG:=ae hG;have HR:=ae hr;have HF:=ae hf
 clear hG hr hf
 by_cases h512:512<fs.length
 ·have E:Hid (mR fmt fs=.tuple #[.string ⟨#[102,105,108,101,115]⟩,.int .i64 4]):=by show _=_;unfold mR gR;rw[if_pos h512]
  go_enter Tryz.func49,Tryz.ntmps49
  go_wp2_with fail
  go_ret2
  exact⟨by rw[E.out];rfl,bR⟩
 have hmm:=@run_makeMap Tryz.prog
 go_enter Tryz.func49,Tryz.ntmps49
 go_wp2_with fail
 clear hmm
 go_loopw [17] (fun i wr=>∃ (k:Nat) (g:BA→Option Value),k≤fs.length∧i=.int .i64 k∧Hid (ee fmt [] fs=ee fmt (fs.take k) (fs.drop k))∧Hid (Jf w wr k (fs.take k) g)) (fun i _=>fs.length-(intOf i).toNat)
 case atStart=>exact⟨0,_,z0,rfl,rfl,Jf.start w⟩
 case round=>
  obtain⟨k,g,hk,rfl,HE,HS⟩:=hrel
  by_cases hlt:k<fs.length
  ·obtain⟨f,hf⟩:∃ f,fs[k]?=some f:=⟨_,gG hlt⟩
   obtain⟨fz1,fz2,fz3,fz4,fz5⟩:=HF.out f (gM hf)
   obtain⟨b,off,hA,he⟩:=(HR.out.below HS.out.bel).elem gL k f hf
   have e0:=he 0 _ rfl
   have e1:=he 1 _ rfl
   have e2:=he 2 _ rfl
   have e3:=he 3 _ rfl
   have e4:=he 4 _ rfl
   have e5:=he 5 _ rfl
   have e6:=he 6 _ rfl
   have e7:=he 7 _ rfl
   simp only[Nat.add_zero] at e0
   have hix:=fun W=>aH (T:=24) (E:=56) (sz:=8) (c:=c) Tryz.underlying24 rfl Tryz.sizeOf56 hA hlt W
   have HX:=ae hf
   clear hf he hA
   have X0:Hid (Bx wr (wr.alloc (.cells #[.string f.path,.int .i64 f.kind,.int .i64 f.mode,.string f.owner,.string f.group,.string f.link,.string f.sum,.bool f.conf] 56)) f.cells):=Bx.start wr f.cells _
   go_wp2_with fail
   clear e0 e1 e2 e3 e4 e5 e6 e7 hix
   refine(iH f.path _ (HG.out.below (ap HS.out.bel X0.out.bel)) (by omega)).mono ?_;rintro e w1 ⟨rfl,hb1⟩
   have X1:Hid (Bx wr w1 f.cells):=X0.out.step hb1
   clear hb1
   cases g1:eh (bl f.path)
   ·skip
    have c0:=X1.out.cell 0 _ rfl
    have FE:kx fmt (fs.take k) f=10:=by unfold kx;rw[g1];rfl
    have E:=ae (gD (fmt:=fmt) h512 (gC HX.out HE.out (by rw[FE];decide)))
    rw[FE] at E
    clear FE g1
    go_wp2_with fail
    go_ret2
    exact⟨by rw[E.out];rfl,ap HS.out.bel X1.out.bel⟩
   have G1:=ae g1;clear g1
   have c0:=X1.out.cell 0 _ rfl
   go_wp2_with fail
   refine(jh f.path _ (by omega)).mono ?_;rintro e w' ⟨rfl,rfl⟩
   cases g2:fM (bl f.path)
   ·skip
    have FE:kx fmt (fs.take k) f=10:=by unfold kx;rw[G1.out,g2];rfl
    have E:=ae (gD (fmt:=fmt) h512 (gC HX.out HE.out (by rw[FE];decide)))
    rw[FE] at E
    clear FE g2
    go_wp2_with fail
    go_ret2
    exact⟨by rw[E.out];rfl,ap HS.out.bel X1.out.bel⟩
   have G2:Hid ((eh (bl f.path)&&fM (bl f.path))=true):=by show _=_;rw[G1.out,g2];rfl
   clear g2
   go_upto_region 10 with(fail)
   go_cut [35] (fun s35 wx=>∃ bb:Bool,s35=.bool bb∧Hid (bb=!ja (fs.take k).getLast? f)∧Hid (Bx wr wx f.cells))
   case first=>
    by_cases k0:k=0
    ·have k0':decide (0<(k:Int))=false:=dF (by omega)
     have k0n:decide (0<k)=false:=dF (by omega)
     have OB:Hid (false=!ja (fs.take k).getLast? f):=by show _=_;rw[k0];rfl
     clear k0
     go_quiet (fail)
     go_wp2_with fail
     go_meet
     exact⟨false,rfl,OB,X1.out.drewN _⟩
    ·have k0':decide (0<(k:Int))=true:=dT (by omega)
     have k0n:decide (0<k)=true:=dT (by omega)
     have kpos:0<k:=by omega
     obtain⟨y,hy⟩:∃ y,fs[k-1]?=some y:=⟨_,gG (by omega)⟩
     have hly:(fs.take k).getLast?=some y:=by have:=EP hy;rw[show k-1+1=k by omega] at this;exact this
     obtain⟨b2,off2,hA2,he2⟩:=(HR.out.below (ap HS.out.bel X1.out.bel)).elem gL (k-1) y hy
     have p0:=he2 0 _ rfl
     simp only[Nat.add_zero] at p0
     have hixp:=fun W=>vQ (T:=24) (E:=56) (sz:=8) (c:=c) (i:=(k:Int)-1) Tryz.underlying24 rfl Tryz.sizeOf56 (by omega) hA2 (show k-1<fs.length by omega) W
     have OB:Hid ((Op.bytesLess f.path.toList y.path.toList||f.path.toList==y.path.toList)=!ja (fs.take k).getLast? f):=by
      show _=_;rw[hly];exact Hy f.path y.path
     have iw:IntKind.i64.wrap ((k:Int)-1)=(k:Int)-1:=IntWalk.i64_in _ (by omega)
     clear hy hly he2 hA2 k0
     go_quiet (fail)
     go_wp2_with fail
     go_meet
     exact⟨_,rfl,OB,X1.out.drewN _⟩
   case rest=>
   obtain⟨bb,rfl,HOB,X2⟩:=hcut
   clear c0
   have c0:=X2.out.cell 0 _ rfl
   have c1:=X2.out.cell 1 _ rfl
   cases bb
   case true=>
    have HO:Hid (ja (fs.take k).getLast? f=false):=by have:=HOB.out;show _=_;revert this;cases ja (fs.take k).getLast? f<;>simp
    have FE:kx fmt (fs.take k) f=15:=by unfold kx;rw[G2.out,HO.out];rfl
    have E:=ae (gD (fmt:=fmt) h512 (gC HX.out HE.out (by rw[FE];decide)))
    rw[FE] at E
    clear FE
    go_wp2_with fail
    go_ret2
    exact⟨by rw[E.out];rfl,ap HS.out.bel X2.out.bel⟩
   have HO:Hid (ja (fs.take k).getLast? f=true):=by have:=HOB.out;show _=_;revert this;cases ja (fs.take k).getLast? f<;>simp
   by_cases hkd:f.kind=1∨f.kind=2∨f.kind=3
   case neg=>
    have q1:(f.kind != 1)=true:=by simp[bne];omega
    have q2:(f.kind != 2)=true:=by simp[bne];omega
    have q3:(f.kind != 3)=true:=by simp[bne];omega
    have FE:kx fmt (fs.take k) f=9:=by unfold kx;rw[G2.out,HO.out,if_neg (by simp),if_neg (by simp),if_pos hkd]
    have E:=ae (gD (fmt:=fmt) h512 (gC HX.out HE.out (by rw[FE];decide)))
    rw[FE] at E
    clear FE hkd
    go_wp2_with fail
    go_ret2
    exact⟨by rw[E.out];rfl,ap HS.out.bel X2.out.bel⟩
   have QQ:Hid (¬ ¬ (f.kind=1∨f.kind=2∨f.kind=3)):=fun h=>h hkd
   have Q:decide (f.kind=1)=true∨(decide (f.kind=1)=false∧decide (f.kind=2)=true)∨(decide (f.kind=1)=false∧decide (f.kind=2)=false∧decide (f.kind=3)=true):=by
    by_cases h1:f.kind=1
    ·exact .inl (dT h1)
    by_cases h2:f.kind=2
    ·exact .inr (.inl ⟨dF h1,dT h2⟩)
    ·exact .inr (.inr ⟨dF h1,dF h2,dT⟩)
   clear hkd
   go_upto_region 12 with(fail)
   go_cut [51] (fun s51 wx=>s51=.bool false∧wc=wx)
   case first=>
    rcases Q with h | ⟨h,h'⟩ | ⟨h,h',h''⟩
    ·have q1:(f.kind != 1)=false:=by have:=dO h;simp[bne,this]
     clear h
     go_wp2_with fail
     go_meet
     exact⟨rfl,rfl⟩
    ·have q1:(f.kind != 1)=true:=by have:=of_decide_eq_false h;simp[bne,this]
     have q2:(f.kind != 2)=false:=by have:=dO h';simp[bne,this]
     clear h h'
     go_wp2_with fail
     go_meet
     exact⟨rfl,rfl⟩
    ·have q1:(f.kind != 1)=true:=by have:=of_decide_eq_false h;simp[bne,this]
     have q2:(f.kind != 2)=true:=by have:=of_decide_eq_false h';simp[bne,this]
     have q3:(f.kind != 3)=false:=by have:=dO h'';simp[bne,this]
     clear h h' h''
     go_wp2_with fail
     go_meet
     exact⟨rfl,rfl⟩
   case rest=>
   obtain⟨rfl,rfl⟩:=hcut
   have c2:=X2.out.cell 2 _ rfl
   have c3:=X2.out.cell 3 _ rfl
   have c4:=X2.out.cell 4 _ rfl
   have c5:=X2.out.cell 5 _ rfl
   have c6:=X2.out.cell 6 _ rfl
   have c7:=X2.out.cell 7 _ rfl
   go_wp2_with fail
   refine(qf fmt hfmt f _ (by omega) (by omega) (by omega) (by omega)).mono ?_;rintro e w3 ⟨rfl,hb3⟩
   have X3:Hid (Bx wr w3 f.cells):=X2.out.step hb3
   clear hb3 c0 c1 c2 c3 c4 c5 c6 c7
   have c0:=X3.out.cell 0 _ rfl
   cases g3:cj fmt f
   case false=>
    have FE:kx fmt (fs.take k) f=1:=by unfold kx;rw[G2.out,HO.out,if_neg (by simp),if_neg (by simp),if_neg QQ.out,g3];rfl
    have E:=ae (gD (fmt:=fmt) h512 (gC HX.out HE.out (by rw[FE];decide)))
    rw[FE] at E
    clear FE g3
    go_wp2_with fail
    go_ret2
    exact⟨by rw[E.out];rfl,ap HS.out.bel X3.out.bel⟩
   have G3:=ae g3;clear g3
   go_wp2_with fail
   have S3:=ae (HS.out.below X3.out.bel)
   refine(oe f (fs.take k) g (w.heap.size+1) w.heap.size k _ (HG.out.below S3.out.bel) S3.out.cell (by have:=S3.out.sz;omega) S3.out.map S3.out.inv fz1).mono ?_;rintro e w4 ⟨rfl,hb4⟩
   have X4:Hid (Bx wr w4 f.cells):=X3.out.step hb4
   have S4:=ae (S3.out.below hb4)
   clear hb4 c0
   have c0:=X4.out.cell 0 _ rfl
   have c1:=X4.out.cell 1 _ rfl
   cases g4:jC (fs.take k) f
   case true=>
    have FE:kx fmt (fs.take k) f=9:=by unfold kx;rw[G2.out,HO.out,if_neg (by simp),if_neg (by simp),if_neg QQ.out,G3.out,if_neg (by simp),g4];rfl
    have E:=ae (gD (fmt:=fmt) h512 (gC HX.out HE.out (by rw[FE];decide)))
    rw[FE] at E
    clear FE g4
    go_wp2_with fail
    go_ret2
    exact⟨by rw[E.out];rfl,ap HS.out.bel X4.out.bel⟩
   have FE:Hid (kx fmt (fs.take k) f=0):=by show _=_;unfold kx;rw[G2.out,HO.out,if_neg (by simp),if_neg (by simp),if_neg QQ.out,G3.out,if_neg (by simp),g4];rfl
   clear g4
   have hmc:=S4.out.cell
   obtain⟨w5,hrun5,hm5,hg5⟩:=S4.out.map.put Tryz.underlying104 (by unfold maxLen;omega) f.path (by unfold maxLen;omega) (.int .i64 f.kind)
   have S5:=ae (S4.out.put HO.out hm5 hg5)
   clear hm5 hg5
   go_wp2_with fail
   clear hrun5 hmc c0 c1
   have TK:Hid (fs.take (k+1)=fs.take k++[f]):=by show _=_;obtain⟨hk',hf'⟩:=gS HX.out;rw[tS hk',hf']
   go_roundw
   case rel=>exact⟨k+1,_,by omega,by go_num,ae (yX HX.out HE.out FE.out),ae (by rw[TK.out];exact S5.out)⟩
   case measure=>simp[intOf];omega
  ·have E:=ae (EL (fmt:=fmt) h512 (Bj (by omega) HE.out))
   go_wp2_with fail
   go_ret2
   exact⟨by rw[E.out];rfl,HS.out.bel⟩
end
section
open Go.RowKit
def Jg (fmt n:Int):Bool:=decide ((1≤n∧n≤4)∨(fmt=1∧n=7)∨(fmt=3∧(n=5∨n=6)))
def Jh (fmt:Int)(x:aT):Bool:=Jg fmt x.phase&&decide (1≤x.body.size∧x.body.size≤4096) && !(bl x.body).contains 0
def qh:List aT→Bool
 | x::y::r=>decide (x.phase<y.phase)&&qh (y::r)
 | _=>true
def eF (fmt:Int)(l:List aT):Int:=if 7<l.length then 4 else if qh l=false then 15 else if l.all (Jh fmt)=true then 0 else 1
theorem vk:∀ (l:List aT),(∀ (i:Nat) x y,l[i]?=some x→l[i+1]?=some y→x.phase<y.phase)→qh l=true
 | [],_=>rfl
 | [x],_=>rfl
 | x::y::r,h=>by
  rw[qh,dT (h 0 x y rfl rfl),vk (y::r) (fun i a b ha hb=>h (i+1) a b (by simpa using ha) (by simpa using hb))];rfl
theorem sI:∀ (l:List aT)(i:Nat)(x y:aT),l[i]?=some x→l[i+1]?=some y→¬ x.phase<y.phase→qh l=false
 | [],i,x,y,h,_,_=>by simp at h
 | [z],i,x,y,h,h',_=>by
  have:=(gS h').1
  simp at this
 | a::b::r,0,x,y,h,h',hn=>by
  simp at h h';subst h h'
  rw[qh,dF hn];rfl
 | a::b::r,i+1,x,y,h,h',hn=>by
  rw[qh,sI (b::r) i x y (by simpa using h) (by simpa using h') hn,Bool.and_false]
theorem pb (fmt n:Int)(hfmt:fmt=1∨fmt=2∨fmt=3)(w:World):
  Calls Tryz.prog 90 #[.int .i64 fmt,.int .i64 n] w fun e w'=>e=.returned (.bool (Jg fmt n))∧w=w':=by
 by_cases h1:1≤n
 ·by_cases h4:n≤4
  ·have E:Hid (Jg fmt n=true):=dT (.inl ⟨h1,h4⟩)
   have t4:decide (n≤4)=true:=dT h4
   have t6:decide (n≤6)=true:=dT (by omega)
   have t1:decide (1≤n)=true:=dT h1
   rcases hfmt with rfl | rfl | rfl
   all_goals
    go_enter Tryz.func90,Tryz.ntmps90
    go_wp2_with fail
    go_ret
    exact⟨af (by rw[E.out]),rfl⟩
  ·have t4:decide (n≤4)=false:=dF h4
   have t1:decide (1≤n)=true:=dT h1
   rcases hfmt with rfl | rfl | rfl
   ·by_cases h7:n=7
    ·have E:Hid (Jg 1 n=true):=dT (by omega)
     have t7:(n==7)=true:=by simpa using h7
     clear h7
     go_enter Tryz.func90,Tryz.ntmps90
     go_wp2_with fail
     go_ret
     exact⟨af (by rw[E.out]),rfl⟩
    ·have E:Hid (Jg 1 n=false):=dF (by omega)
     have t7:(n==7)=false:=by simpa using h7
     clear h7
     go_enter Tryz.func90,Tryz.ntmps90
     go_wp2_with fail
     go_ret
     exact⟨af (by rw[E.out]),rfl⟩
   ·have E:Hid (Jg 2 n=false):=dF (by omega)
    go_enter Tryz.func90,Tryz.ntmps90
    go_wp2_with fail
    go_ret
    exact⟨af (by rw[E.out]),rfl⟩
   ·by_cases h6:n≤6
    ·have E:Hid (Jg 3 n=true):=dT (by omega)
     have t6:decide (n≤6)=true:=dT h6
     go_enter Tryz.func90,Tryz.ntmps90
     go_wp2_with fail
     go_ret
     exact⟨af (by rw[E.out]),rfl⟩
    ·have E:Hid (Jg 3 n=false):=dF (by omega)
     have t6:decide (n≤6)=false:=dF h6
     go_enter Tryz.func90,Tryz.ntmps90
     go_wp2_with fail
     go_ret
     exact⟨af (by rw[E.out]),rfl⟩
 ·have E:Hid (Jg fmt n=false):=dF (by omega)
  have t1:decide (1≤n)=false:=dF h1
  have t7:(n==7)=false:=by simp;omega
  rcases hfmt with rfl | rfl | rfl
  all_goals
   go_enter Tryz.func90,Tryz.ntmps90
   go_wp2_with fail
   go_ret
   exact⟨af (by rw[E.out]),rfl⟩
def Bk (l:List aT)(k:Nat):Prop:=∀ (i:Nat) x y,i+1<k→l[i]?=some x→l[i+1]?=some y→x.phase<y.phase
theorem Bk.all {l:List aT}{k:Nat}(h:Bk l k)(hk:l.length≤k):qh l=true:=
 vk l fun i x y hx hy=>h i x y (Nat.lt_of_lt_of_le (gS hy).1 hk) hx hy
theorem Bk.next {l:List aT}{k:Nat}{x y:aT}(h:Bk l k)(hx:l[k-1]?=some x)(hy:l[k]?=some y)(hlt:x.phase<y.phase):Bk l (k+1):=by
 intro i a b hi ha hb
 by_cases e:i+1=k
 ·subst e
  rw[Nat.add_sub_cancel] at hx
  rw[hx] at ha;rw[hy] at hb
  injection ha with ha;injection hb with hb
  subst ha hb;exact hlt
 ·exact h i a b (by omega) ha hb
theorem Bk.one {l:List aT}:Bk l 1:=fun i x y hi=>by omega
theorem Bk.zero {l:List aT}:Bk l 0:=fun i x y hi=>by omega
theorem sJ {fmt:Int}{l:List aT}(h7:¬ 7<l.length)(h:qh l=false):eF fmt l=15:=by unfold eF;rw[if_neg h7,if_pos h]
theorem iz {fmt:Int}{l:List aT}(h7:¬ 7<l.length)(h:qh l=true)(ha:l.all (Jh fmt)=false):eF fmt l=1:=by unfold eF;rw[if_neg h7,h,ha];rfl
theorem yY {fmt:Int}{l:List aT}(h7:¬ 7<l.length)(h:qh l=true)(ha:l.all (Jh fmt)=true):eF fmt l=0:=by unfold eF;rw[if_neg h7,h,ha];rfl
theorem mS (fmt:Int)(hfmt:fmt=1∨fmt=2∨fmt=3)(A:OA)(c:Nat)(l:List aT)(w:World)(hr:Rd w 2 A l.length (l.flatMap aT.cells))(hn:l.length≤9223372036854775807)(hf:∀ x∈l,x.body.size≤4294967280):
  Calls Tryz.prog 50 #[.int .i64 fmt,.slice A l.length c] w fun e w'=>e=.returned (.int .i64 (eF fmt l))∧Below w.heap.size w w':=by
 have HR:=ae hr;have HF:=ae hf
 clear hr hf
 by_cases h7:7<l.length
 ·have E:Hid (eF fmt l=4):=by show _=_;unfold eF;rw[if_pos h7]
  go_enter Tryz.func50,Tryz.ntmps50
  go_wp2_with fail
  go_ret
  exact⟨aE (by rw[E.out]),bR⟩
 go_enter Tryz.func50,Tryz.ntmps50
 go_wp2_with fail
 go_loopw [14] (fun i wr=>∃ k:Nat,k≤l.length∧i=.int .i64 k∧Hid (Bk l k)∧Hid (Below w.heap.size w wr)) (fun i _=>l.length-(intOf i).toNat)
 case atStart=>exact⟨0,z0,rfl,Bk.zero,bR⟩
 case round=>
  obtain⟨k,hk,rfl,HI,HB⟩:=hrel
  by_cases hlt:k<l.length
  ·obtain⟨y,hy⟩:∃ y,l[k]?=some y:=⟨_,gG hlt⟩
   by_cases k0:k=0
   ·have k0':decide (0<(k:Int))=false:=dF (by omega)
    have k0n:decide (0<k)=false:=dF (by omega)
    have HI2:Hid (Bk l (k+1)):=by show Bk _ _;rw[k0];exact Bk.one
    clear k0 hy
    go_wp2_with fail
    go_quiet (fail)
    go_wp2_with fail
    go_roundw
    case rel=>exact⟨k+1,by omega,by go_num,HI2,ae (aq HB.out _)⟩
    case measure=>simp[intOf];omega
   ·have k0':decide (0<(k:Int))=true:=dT (by omega)
    have k0n:decide (0<k)=true:=dT (by omega)
    have kpos:0<k:=by omega
    obtain⟨x,hx⟩:∃ x,l[k-1]?=some x:=⟨_,gG (by omega)⟩
    obtain⟨b1,off1,hA1,he1⟩:=(HR.out.below HB.out).elem gp k y hy
    obtain⟨b2,off2,hA2,he2⟩:=(HR.out.below HB.out).elem gp (k-1) x hx
    have p1:=he1 0 _ rfl
    have p2:=he2 0 _ rfl
    simp only[Nat.add_zero] at p1 p2
    have hix1:=fun W=>aH (T:=25) (E:=44) (sz:=2) (c:=c) Tryz.underlying25 rfl Tryz.sizeOf44 hA1 hlt W
    have hix2:=fun W=>vQ (T:=25) (E:=44) (sz:=2) (c:=c) (i:=(k:Int)-1) Tryz.underlying25 rfl Tryz.sizeOf44 (by omega) hA2 (show k-1<l.length by omega) W
    have iw:IntKind.i64.wrap ((k:Int)-1)=(k:Int)-1:=IntWalk.i64_in _ (by omega)
    have HX:=ae hx;have HY:=ae hy
    clear hx hy hA1 hA2 he1 he2 k0
    by_cases hp:x.phase<y.phase
    ·have HI2:Hid (Bk l (k+1)):=HI.out.next HX.out HY.out hp
     have hp2:decide (y.phase≤x.phase)=false:=dF (by omega)
     go_wp2_with fail
     go_quiet (fail)
     go_wp2_with fail
     clear iw hix1 hix2
     go_roundw
     case rel=>exact⟨k+1,by omega,by go_num,HI2,ae (aq HB.out _)⟩
     case measure=>simp[intOf];omega
    ·have E:=ae (sJ (fmt:=fmt) h7 (sI l (k-1) x y HX.out (by rw[show k-1+1=k by omega];exact HY.out) hp))
     have hp2:decide (y.phase≤x.phase)=true:=dT (by omega)
     go_wp2_with fail
     go_quiet (fail)
     go_wp2_with fail
     go_ret
     exact⟨aE (by rw[E.out]),aq HB.out _⟩
  ·have HIN:Hid (qh l=true):=HI.out.all (by omega)
   go_wp2_with fail
   go_loopw [36] (fun i wr=>∃ k:Nat,k≤l.length∧i=.int .i64 k∧Hid ((l.take k).all (Jh fmt)=true)∧Hid (Below w.heap.size w wr)) (fun i _=>l.length-(intOf i).toNat)
   case atStart=>exact⟨0,z0,rfl,by simp[Hid],HB⟩
   case round=>
    clear HB
    obtain⟨m,hm,rfl,HA,HB⟩:=hrel
    by_cases hlt2:m<l.length
    ·obtain⟨x,hx⟩:∃ x,l[m]?=some x:=⟨_,gG hlt2⟩
     have hbs:=HF.out x (gM hx)
     obtain⟨b1,off1,hA1,he1⟩:=(HR.out.below HB.out).elem gp m x hx
     have p1:=he1 0 _ rfl
     have p2:=he1 1 _ rfl
     simp only[Nat.add_zero] at p1
     have hix1:=fun W=>aH (T:=25) (E:=44) (sz:=2) (c:=c) Tryz.underlying25 rfl Tryz.sizeOf44 hA1 hlt2 W
     have HX:=ae hx
     have HB2:Hid (Below w.heap.size w (wr.alloc (.cells #[.int .i64 x.phase,.string x.body] 44))):=HB.out.alloc HB.out.size _
     clear hx hA1 he1
     go_wp2_with fail
     refine(pb fmt x.phase hfmt _).mono ?_;rintro e w' ⟨rfl,rfl⟩
     cases g1:Jg fmt x.phase
     ·have E:=ae (iz (fmt:=fmt) h7 HIN.out (kj HX.out (by unfold Jh;rw[g1];rfl)))
      clear g1
      go_wp2_with fail
      go_ret
      exact⟨aE (by rw[E.out]),HB2.out⟩
     by_cases s1:x.body.size<1
     ·have E:=ae (iz (fmt:=fmt) h7 HIN.out (kj HX.out (by unfold Jh;rw[dF];simp)))
      clear g1
      go_wp2_with fail
      go_ret
      exact⟨aE (by rw[E.out]),HB2.out⟩
     by_cases s2:4096<x.body.size
     ·have E:=ae (iz (fmt:=fmt) h7 HIN.out (kj HX.out (by unfold Jh;rw[dF];simp)))
      clear g1
      go_wp2_with fail
      go_ret
      exact⟨aE (by rw[E.out]),HB2.out⟩
     have G1:=ae g1;clear g1
     go_wp2_with fail
     refine(uz x.body _).mono ?_;rintro e w' ⟨rfl,rfl⟩
     cases g2:(bl x.body).contains 0
     ·have HA2:Hid ((l.take (m+1)).all (Jh fmt)=true):=xM HX.out HA.out (by unfold Jh;rw[G1.out,g2,dT];rfl)
      clear g2
      go_wp2_with fail
      go_roundw
      case rel=>exact⟨m+1,by omega,by go_num,HA2,HB2⟩
      case measure=>simp[intOf];omega
     ·have E:=ae (iz (fmt:=fmt) h7 HIN.out (kj HX.out (by unfold Jh;rw[g2];simp)))
      clear g2
      go_wp2_with fail
      go_ret
      exact⟨aE (by rw[E.out]),HB2.out⟩
    ·have E:=ae (yY (fmt:=fmt) h7 HIN.out (by have:=HA.out;rw[tL (by omega)] at this;exact this))
     go_wp2_with fail
     go_ret
     exact⟨aE (by rw[E.out]),HB.out⟩
end
section
open Go.RowKit Go.Deep
open Go.RowKit
open Go.RowKit Go.Maps
def Ji (nm:BA)(r:BA×Int):Value:=if r.2=0 then dq ⟨#[]⟩ ⟨#[]⟩ 0 else dq nm r.1 r.2
theorem Hz (nm what:BA):Ji nm (what,0)=.agg #[.string ⟨#[]⟩,.string ⟨#[]⟩,.int .i64 0]:=rfl
theorem yZ (nm what:BA){c:Int}(h:c≠0):Ji nm (what,c)=.agg #[.string nm,.string what,.int .i64 c]:=by unfold Ji;rw[if_neg h];rfl
theorem av.grownC {wr w':World}{b c:Nat}{vs:LV}(h:av wr c vs)(hg:wr.grownBy w' (some b))(hne:c≠b):av w' c vs:=by
 have hk:w'.heap[c]?=wr.heap[c]?:=hg.block c h.sz (by intro e;injection e with e;exact hne e)
 refine⟨Nat.lt_of_lt_of_le h.sz hg.size,fun j u hu=>?_,fun j hj=>?_⟩
 ·exact(World.cell?_of_block (a:=⟨c,j,none⟩) hk).trans (h.cell j u hu)
 ·exact(World.frozen?_of_block (a:=⟨c,j,none⟩) hk).trans (h.free j hj)
end
end Go.Proofs.YtlglfpbhapmhiaaGreatDoor
