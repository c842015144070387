/- A part of the proof. -/
import Derived.Test.YtaohgmcbpafdeaaGreatDoorA14
import Derived.Test.YtaohgmcbpafdeaaGreatDoorA18
import Derived.Test.YtaohgmcbpafdeaaGreatDoorA20
set_option maxRecDepth 100000
set_option maxHeartbeats 20000000
set_option linter.unusedVariables false
set_option linter.unusedSimpArgs false
namespace Go.Proofs.YtaohgmcbpafdeaaGreatDoor
section
open Go.RowKit
def bH (s:BA):List BA:=(bT (bl s)).map fun p=>(⟨p.toArray⟩:BA)
theorem pW (l:List BA):(l.map bl).map (fun p=>(⟨p.toArray⟩:BA))=l:=by
 rw[List.map_map];conv=>rhs;rw[←List.map_id l]
 apply List.map_congr_left;intro a _;apply dY;simp[bl]
theorem mr (s:BA):Lib.splitB ⟨#[47]⟩ 0 (Lib.countB s ⟨#[47]⟩) s=bH s:=by
 have h:=Lib.splitB_data ⟨#[47]⟩ 0 (Lib.countB s ⟨#[47]⟩) s
 have h2:Lib.countB s ⟨#[47]⟩=(bl s).count 47:=by
  show Lib.count _ _=_
  exact Lib.count_one 47 (bl s)
 have h3:(Lib.splitB ⟨#[47]⟩ 0 (Lib.countB s ⟨#[47]⟩) s).map bl=bT (bl s):=by
  refine Eq.trans h ?_
  rw[h2];exact mo _ (bl s) rfl
 unfold bH
 rw[←h3,pW]
theorem Fe (s:BA)(w:World)(hG:Gl w)(hs:s.size≤4294967280):
  Calls Tryz.prog 120 #[.string s,.string ⟨#[47]⟩] w fun e w'=>e=.returned (.slice (some ⟨w.heap.size,0,none⟩) (bH s).length (bH s).length)∧Rd w' 1 (some ⟨w.heap.size,0,none⟩) (bH s).length (az (bH s))∧Below w.heap.size w w':=by
 obtain⟨m,hm⟩:=hG.ml
 refine(Tryz.strings_Split s ⟨#[47]⟩ m w (by omega) hm (by decide)).mono fun e w' ⟨he,hw⟩=>?_
 have hl:(bH s).length=Lib.countB s ⟨#[47]⟩+1:=by
  rw[←mr];exact Lib.splitB_all ⟨#[47]⟩ (by decide) 0 _ s rfl
 rw[mr] at hw
 rw[hl,hw]
 refine⟨he,⟨by simp[az,hl],fun _=>⟨_,0,rfl,fun j u hu=>?_⟩⟩,bR.alloc lr _⟩
 simpa [az] using hu
theorem vv (s:BA)(w:World):
  Calls Tryz.prog 87 #[.string s,.string ⟨#[0]⟩] w fun e w'=>e=.returned (.bool ((bl s).contains 0))∧w=w':=
 (Tryz.strings_Contains_one s 0 w).mono fun e w' ⟨he,hw⟩=>⟨by
  rw[he];congr 2
  cases h:(bl s).contains 0
  ·have:=fg s 0 h;unfold uz at this;simp only[bl] at this;simp;omega
  ·have:=fH s 0 h;unfold uz at this;simp only[bl] at this;simpa using this,hw.symm⟩
theorem oX (w:World)(s:BA):iF (w.alloc (.cells #[.string s] 9)) (w.heap.size+1) 1 (some ⟨w.heap.size,0,none⟩) 1 [.string s]:=by
 refine⟨rfl,fun _=>⟨_,rfl,by simp,fun j u hu=>?_⟩⟩
 cases j with
 | zero=>simp at hu;subst hu;simp[Addr.add]
 | succ j=>simp at hu
theorem gL (p:BA):rJ (bl p)=!(p.toList.isEmpty||p.toList == [46]||p.toList == [46,46]):=by
 rw[ah];unfold rJ
 rw[bI];simp
theorem pX (s:BA)(k:Nat)(x:BA)(h:(bH s)[k]?=some x):(bT (bl s))[k]?=some (bl x):=by
 unfold bH at h
 rw[List.getElem?_map] at h
 obtain⟨p,hp,rfl⟩:=Option.map_eq_some_iff.1 h
 rw[hp,ii]
theorem jm (s:BA):(bH s).length=(bT (bl s)).length:=by simp[bH]
theorem gD:∀ (l:LU),(bT l).length≤l.length+1
 | []=>by simp[bT]
 | c::r=>by
  have:=gD r
  by_cases hc:c=47
  ·rw[bT,if_pos hc];simp;omega
  ·obtain⟨p,ps,h1,h2⟩:=iJ hc r
   rw[h1] at this;rw[h2];simp at *;omega
theorem rN {α:Type}{p:α→Bool}{l:List α}{k:Nat}{x:α}(h:l[k]?=some x)(h0:(l.take k).all p=true)(hx:p x=true):(l.take (k+1)).all p=true:=by
 obtain⟨hk,he⟩:=gS h
 rw[tS hk,List.all_append,h0,he];simp[hx]
theorem gE {α:Type}{p:α→Bool}{l:List α}{k:Nat}{x:α}(h:l[k]?=some x)(hx:p x=false):l.all p=false:=by
 rw[List.all_eq_false];exact⟨x,gM h,by simp[hx]⟩
theorem iN (s:BA)(w:World)(hG:Gl w)(hs:s.size≤9223372036854775807):
  Calls Tryz.prog 83 #[.string s] w fun e w'=>e=.returned (.bool (cy (bl s)))∧Below w.heap.size w w':=by
 have HG:=ae hG;clear hG
 by_cases h1:s.size<1
 ·have E:Hid (cy (bl s)=false):=by show _=_;unfold cy;rw[ag,show decide (1≤s.size)=false from dF (by omega)];rfl
  go_enter Tryz.func83,Tryz.ntmps83
  go_wp2_with fail
  go_ret
  exact⟨af E.out.symm,bR⟩
 by_cases h2:200<s.size
 ·have E:Hid (cy (bl s)=false):=by show _=_;unfold cy;rw[ag,show decide (s.size≤200)=false from dF (by omega)];simp
  go_enter Tryz.func83,Tryz.ntmps83
  go_wp2_with fail
  go_ret
  exact⟨af E.out.symm,bR⟩
 go_enter Tryz.func83,Tryz.ntmps83
 go_wp2_with fail
 refine(vv _ _).mono ?_;rintro e w' ⟨rfl,rfl⟩
 cases h0:(bl s).contains 0
 ·go_wp2_with fail
  refine(Fe s _ HG.out (by omega)).mono ?_;rintro e w1 ⟨rfl,hr,hb⟩
  have HR:=ae hr;have HB:=ae hb;clear hr hb
  have hN:(bH s).length≤201:=by rw[jm];have:=gD (bl s);rw[ag] at this;omega
  have E:Hid (cy (bl s)=(bT (bl s)).all rJ):=by show _=_;unfold cy;rw[h0,ag,show decide (1≤s.size)=true from dT (by omega),show decide (s.size≤200)=true from dT (by omega)];simp
  have HL:=ae (jm s)
  clear h0
  go_wp2_with fail
  go_loop [20] (fun i=>∃ k:Nat,k≤(bH s).length∧i=.int .i64 k∧Hid (((bT (bl s)).take k).all rJ=true)) (fun i=>(bH s).length-(intOf i).toNat)
  case atStart=>exact⟨0,z0,rfl,by simp[Hid]⟩
  case round=>
   obtain⟨k,hk,rfl,HA⟩:=hrel
   by_cases hlt:k<(bH s).length
   ·obtain⟨x,hx⟩:∃ x,(bH s)[k]?=some x:=⟨_,gG hlt⟩
    obtain⟨b,off,hA,he⟩:=HR.out.str k x hx
    have hix:=fun W=>aI (T:=26) (E:=9) (sz:=1) (c:=(bH s).length) Tryz.underlying26 rfl Tryz.sizeOf9 hA hlt W
    simp only[Nat.mul_one] at hix
    have HX:=ae (pX s k x hx)
    clear hx hA
    go_wp2_with fail
    ·go_ret
     exact⟨af (by rw[E.out];exact(gE HX.out (by rw[gL];simp_all)).symm),HB.out⟩
    ·go_ret
     exact⟨af (by rw[E.out];exact(gE HX.out (by rw[gL];simp_all)).symm),HB.out⟩
    ·go_ret
     exact⟨af (by rw[E.out];exact(gE HX.out (by rw[gL];simp_all)).symm),HB.out⟩
    ·go_round
     case rel=>exact⟨k+1,by omega,by go_num,ae (rN HX.out HA.out (by rw[gL];simp_all))⟩
     case measure=>simp[intOf];omega
   ·go_wp2_with fail
    go_ret
    exact⟨af (by rw[E.out];have:=HA.out;rw[tL (by rw[←HL.out];omega)] at this;exact this.symm),HB.out⟩
 ·have E:Hid (cy (bl s)=false):=by show _=_;unfold cy;rw[h0];simp
  go_wp2_with fail
  go_ret
  exact⟨af E.out.symm,bR⟩
def iq (l:LU)(c:UInt8):Bool:=l.contains c
theorem qY (s:BA)(c:UInt8)(w:World)(hs:s.size≤9223372036854775807):
  Calls Tryz.prog 74 #[.string s,.int .u8 c.toNat] w fun e w'=>e=.returned (.bool (iq (bl s) c))∧w=w':=by
 go_enter Tryz.func74,Tryz.ntmps74
 go_wp2_with fail
 go_loop [5] (fun i=>∃ k:Nat,k≤s.size∧i=.int .i64 k∧Hid (((bl s).take k).contains c=false)) (fun i=>s.size-(intOf i).toNat)
 case atStart=>exact⟨0,z0,rfl,by simp[Hid]⟩
 case round=>
  obtain⟨k,hk,rfl,HA⟩:=hrel
  by_cases hlt:k<s.size
  ·by_cases hc:s[k]=c
   ·have hc1:((s[k].toNat:Int)==(c.toNat:Int))=true:=by rw[hc];simp
    have HC:=ae hc
    clear hc
    go_wp2_with fail
    go_ret
    exact⟨af (yB s c k hlt HC.out).symm,rfl⟩
   ·have hc1:((s[k].toNat:Int)==(c.toNat:Int))=false:=by
     simp only[bF,ne_eq];intro h;apply hc;apply UInt8.toNat_inj.1;omega
    have HC:=ae hc
    clear hc
    go_wp2_with fail
    go_round
    case rel=>exact⟨k+1,by omega,by go_num,ae (mL s c k hlt HA.out (by simpa using HC.out))⟩
    case measure=>simp[intOf];omega
  ·go_wp2_with fail
   go_ret
   exact⟨af (by have:=HA.out;rw[gm s k (by omega)] at this;exact this.symm),rfl⟩
def dQ (s:BA)(k from_:Nat)(out:List BA):Prop:=
 (k≤s.size∧from_≤k∧(47:UInt8) ∉ ((bl s).drop from_).take (k-from_)∧bT (bl s)=out.map bl++bT ((bl s).drop from_))∨(k=s.size+1∧bT (bl s)=out.map bl)
theorem dQ.next {s:BA}{k from_:Nat}{out:List BA}(h:dQ s k from_ out)(hk:k<s.size)(hc:¬ s[k]=47):dQ s (k+1) from_ out:=by
 rcases h with⟨h1,h2,h3,h4⟩ | ⟨h1,_⟩
 ·refine .inl ⟨by omega,by omega,?_,h4⟩
  have hl:k-from_<((bl s).drop from_).length:=by rw[List.length_drop,ag];omega
  rw[show k+1-from_=(k-from_)+1 by omega,tS hl,List.mem_append,List.mem_singleton]
  rintro(h | h)
  ·exact h3 h
  ·apply hc
   have h5:=gj s k hk
   rw[List.getElem_drop] at h
   simp only[show from_+(k-from_)=k by omega] at h
   rw[←h5];exact h.symm
 ·omega
theorem dQ.hit {s:BA}{k from_:Nat}{out:List BA}(h:dQ s k from_ out)(hk:k<s.size)(hc:s[k]=47):dQ s (k+1) (k+1) (out++[s.extract from_ k]):=by
 rcases h with⟨h1,h2,h3,h4⟩ | ⟨h1,_⟩
 ·refine .inl ⟨by omega,lr,by simp,?_⟩
  have hg:((bl s).drop from_)[k-from_]?=some 47:=by
   rw[List.getElem?_drop,show from_+(k-from_)=k by omega,cZ s k hk,hc]
  rw[h4,mT _ _ h3 hg,List.map_append,List.append_assoc]
  congr 1
  simp only[List.map_cons,List.map_nil,List.singleton_append,iC,List.drop_drop]
  rw[show from_+(k-from_+1)=k+1 by omega]
 ·omega
theorem dQ.last {s:BA}{from_:Nat}{out:List BA}(h:dQ s s.size from_ out):dQ s (s.size+1) (s.size+1) (out++[s.extract from_ s.size]):=by
 rcases h with⟨h1,h2,h3,h4⟩ | ⟨h1,_⟩
 ·refine .inr ⟨rfl,?_⟩
  have hn:(47:UInt8) ∉ (bl s).drop from_:=by
   rw[tL (by rw[List.length_drop,ag];omega)] at h3;exact h3
  rw[h4,kR _ hn,List.map_append]
  simp[cv]
 ·omega
theorem dQ.le {s:BA}{k from_:Nat}{out:List BA}(h:dQ s k from_ out)(hk:k≤s.size):from_≤k∧out.length≤s.size+1:=by
 have hp:=gD (bl s)
 rw[ag] at hp
 rcases h with⟨h1,h2,h3,h4⟩ | ⟨h1,_⟩
 ·refine⟨h2,?_⟩
  have:=congrArg List.length h4
  rw[List.length_append,List.length_map] at this;omega
 ·omega
def Ff (s:BA)(w:World)(e:Ending)(w':World):Prop:=∃ A c,e=.returned (.slice A (bH s).length c)∧Rd w' 1 A (bH s).length (az (bH s))∧Below w.heap.size w w'
theorem Fg (s:BA)(w:World)(hs:s.size≤100000):
  Calls Tryz.prog 105 #[.string s] w (Ff s w):=by
 obtain⟨i0,hi0,hz0,hz1,hz2⟩:=info_parts jD
 go_enter Tryz.func105,Tryz.ntmps105
 go_wp2_with fail
 go_loopw [3,4,5] (fun o f i wr=>∃ (k fr:Nat) (out:List BA),k≤s.size+1∧fr≤s.size+1∧i=.int .i64 k∧f=.int .i64 fr∧Hid (dQ s k fr out)∧Hid (wr.ownsRow w.heap.size 9 1 o out.length (az out))∧Hid (Below w.heap.size w wr)) (fun _ _ i _=>s.size+1-(intOf i).toNat)
 case atStart=>exact⟨0,0,[],z0,z0,rfl,rfl,ae (.inl ⟨z0,lr,by simp,by simp⟩),World.ownsRow_nil _ _ _ _,bR⟩
 case round=>
  obtain⟨k,fr,out,hk,hf,rfl,rfl,HI,HO,HB⟩:=hrel
  obtain⟨Ao,co,rfl⟩:=aP HO.out
  by_cases hle:k≤s.size
  ·obtain⟨hfk,hol⟩:=HI.out.le hle
   have fin:∀ (k:Nat),True:=fun _=>trivial
   by_cases hlt:k<s.size
   ·have hne:((k:Int)==(s.size:Int))=false:=by simp;omega
    by_cases hc:s[k]=47
    ·have hc1:((s[k].toNat:Int)==47)=true:=by rw[hc];rfl
     have HC:=ae hc
     clear hc
     go_wp2_with (at_builtin;refine aD _ rfl _ _ _ rfl w.heap.size 9 i0 _ 1 16 Tryz.underlying26 hi0 hz0 hz1 hz2 rfl (by omega) (.slice Ao out.length co) out.length _ rfl (HO.out.alloc _) (wr.heap.size+1) (some ⟨wr.heap.size,0,none⟩) 1 1 [.string (s.extract fr k)] rfl (oX wr _) (by simp[Value.oneCell']) (by simp only[maxLen];omega) (by omega) (by simp;have:=HB.out.size;omega) ?_;intro v1 w1 o1 g1 a1)
     have O1:Hid (w1.ownsRow w.heap.size 9 1 v1 (out++[s.extract fr k]).length (az (out++[s.extract fr k]))):=by show World.ownsRow _ _ _ _ _ _ _;rw[List.length_append];simpa [az] using o1
     have B1:Hid (Below w.heap.size w w1):=(HB.out.alloc HB.out.size _).grown g1 (by simp;have:=HB.out.size;omega) (fun j hj=>(HO.out.lt j hj).1)
     clear o1 g1 a1
     go_roundw
     case rel=>exact⟨k+1,k+1,_,by omega,by omega,by go_num,by go_num,ae (HI.out.hit hlt HC.out),O1,B1⟩
     case measure=>simp[intOf];omega
    ·have hc1:((s[k].toNat:Int)==47)=false:=by
      simp only[bF,ne_eq];intro h;apply hc;apply UInt8.toNat_inj.1;show _=47;omega
     have HC:=ae hc
     clear hc
     go_wp2_with fail
     go_roundw
     case rel=>exact⟨k+1,fr,out,by omega,by omega,by go_num,rfl,ae (HI.out.next hlt HC.out),HO,HB⟩
     case measure=>simp[intOf];omega
   ·obtain rfl:k=s.size:=by omega
    have hne:((s.size:Int)==(s.size:Int))=true:=by simp
    go_wp2_with (at_builtin;refine aD _ rfl _ _ _ rfl w.heap.size 9 i0 _ 1 16 Tryz.underlying26 hi0 hz0 hz1 hz2 rfl (by omega) (.slice Ao out.length co) out.length _ rfl (HO.out.alloc _) (wr.heap.size+1) (some ⟨wr.heap.size,0,none⟩) 1 1 [.string (s.extract fr s.size)] rfl (oX wr _) (by simp[Value.oneCell']) (by simp only[maxLen];omega) (by omega) (by simp;have:=HB.out.size;omega) ?_;intro v1 w1 o1 g1 a1)
    have O1:Hid (w1.ownsRow w.heap.size 9 1 v1 (out++[s.extract fr s.size]).length (az (out++[s.extract fr s.size]))):=by show World.ownsRow _ _ _ _ _ _ _;rw[List.length_append];simpa [az] using o1
    have B1:Hid (Below w.heap.size w w1):=(HB.out.alloc HB.out.size _).grown g1 (by simp;have:=HB.out.size;omega) (fun j hj=>(HO.out.lt j hj).1)
    clear o1 g1 a1
    go_roundw
    case rel=>exact⟨s.size+1,s.size+1,_,by omega,by omega,by go_num,by go_num,ae HI.out.last,O1,B1⟩
    case measure=>simp[intOf]
  ·go_wp2_with fail
   go_ret
   have e:out=bH s:=by
    rcases HI.out with⟨h1,_⟩ | ⟨_,h2⟩
    ·omega
    ·unfold bH;rw[h2,pW]
   subst e
   exact⟨Ao,co,rfl,cH HO.out,HB.out⟩
end
section
open Go.RowKit Go.Deep
def Lq (s:BA)(w:World)(e:Ending)(w':World):Prop:=∃ A c,e=.returned (.slice A (aL s).length c)∧w'.ownsRow w.heap.size 9 1 (.slice A (aL s).length c) (aL s).length (az (aL s))∧Below w.heap.size w w'
theorem mx (s:BA)(w:World)(hs:s.size≤100000):
  Calls Tryz.prog 32 #[.string s] w (Lq s w):=by
 obtain⟨i0,hi0,hz0,hz1,hz2⟩:=info_parts jD
 go_enter Tryz.func32,Tryz.ntmps32
 go_wp2_with fail
 go_loopw [3,7] (fun o i wr=>∃ (k:Nat),k≤s.size∧i=.int .i64 k∧Hid (wr.ownsRow w.heap.size 9 1 o (fY s k).length (az (fY s k)))∧Hid (Below w.heap.size w wr)) (fun _ i _=>s.size-(intOf i).toNat)
 case atStart=>exact⟨0,z0,rfl,World.ownsRow_nil _ _ _ _,bR⟩
 case round=>
  obtain⟨k,hk,rfl,HO,HB⟩:=hrel
  obtain⟨Ao,co,rfl⟩:=aP HO.out
  have hol:=rL s k
  by_cases hlt:k<s.size
  ·by_cases hc:s[k]=47
   ·have hc1:((s[k].toNat:Int)==47)=true:=by rw[hc];rfl
    have HC:=ae hc
    clear hc
    go_wp2_with (at_builtin;refine aD _ rfl _ _ _ rfl w.heap.size 9 i0 _ 1 16 Tryz.underlying26 hi0 hz0 hz1 hz2 rfl (by omega) (.slice Ao (fY s k).length co) (fY s k).length _ rfl (HO.out.alloc _) (wr.heap.size+1) (some ⟨wr.heap.size,0,none⟩) 1 1 [.string (s.extract 0 k)] rfl (oX wr _) (by simp[Value.oneCell']) (by simp only[maxLen];omega) (by omega) (by simp;have:=HB.out.size;omega) ?_;intro v1 w1 o1 g1 a1)
    have O1:Hid (w1.ownsRow w.heap.size 9 1 v1 (fY s (k+1)).length (az (fY s (k+1)))):=by show World.ownsRow _ _ _ _ _ _ _;rw[Iz hlt HC.out,List.length_append];simpa [az] using o1
    have B1:Hid (Below w.heap.size w w1):=(HB.out.alloc HB.out.size _).grown g1 (by simp;have:=HB.out.size;omega) (fun j hj=>(HO.out.lt j hj).1)
    clear o1 g1 a1
    go_roundw
    case rel=>exact⟨k+1,by omega,by go_num,O1,B1⟩
    case measure=>simp[intOf];omega
   ·have hc1:((s[k].toNat:Int)==47)=false:=by
     simp only[bF,ne_eq];intro h;apply hc;apply UInt8.toNat_inj.1;show _=47;omega
    have HC:=ae hc
    clear hc
    go_wp2_with fail
    go_roundw
    case rel=>exact⟨k+1,by omega,by go_num,by rw[Fc hlt HC.out];exact HO,HB⟩
    case measure=>simp[intOf];omega
  ·obtain rfl:k=s.size:=by omega
   go_wp2_with fail
   go_ret
   exact⟨Ao,co,rfl,HO.out,HB.out⟩
theorem Fk:kV ⟨#[0,10,58]⟩:=⟨by decide,by decide,by intro j b h;have:=gM h;simp[bl] at this;rcases this with rfl | rfl | rfl<;>decide⟩
theorem Lr:kV ⟨#[0,10]⟩:=⟨by decide,by decide,by intro j b h;have:=gM h;simp[bl] at this;rcases this with rfl | rfl<;>decide⟩
theorem pY (s:BA)(w:World)(hs:s.size≤4294967280):
  Calls Tryz.prog 88 #[.string s] w fun e w'=>e=.returned (.bool (kD s))∧Below w.heap.size w w':=by
 by_cases h1:s.size≤31
 ·have E:Hid (kD s=!Lib.containsAny (bl s) [0,10,58]):=by show _=_;unfold kD;rw[dT h1];rfl
  go_enter Tryz.func88,Tryz.ntmps88
  go_wp2_with fail
  refine(nV _ Fk s _ hs).mono ?_;rintro e w' ⟨rfl,hb⟩
  go_wp2_with fail
  go_ret
  exact⟨af (by rw[E.out];rfl),hb⟩
 ·have E:Hid (kD s=false):=by show _=_;unfold kD;rw[dF h1];rfl
  go_enter Tryz.func88,Tryz.ntmps88
  go_wp2_with fail
  go_ret
  exact⟨af E.out.symm,bR⟩
theorem wY (s:BA)(w:World)(hs:s.size≤4294967280):
  Calls Tryz.prog 89 #[.string s] w fun e w'=>e=.returned (.bool (jl s))∧Below w.heap.size w w':=by
 by_cases h0:1≤s.size
 ·by_cases h1:s.size≤200
  ·have E:Hid (jl s=!Lib.containsAny (bl s) [0,10]):=by show _=_;unfold jl;rw[dT h0,dT h1];rfl
   go_enter Tryz.func89,Tryz.ntmps89
   go_wp2_with fail
   refine(nV _ Lr s _ hs).mono ?_;rintro e w' ⟨rfl,hb⟩
   go_wp2_with fail
   go_ret
   exact⟨af (by rw[E.out];rfl),hb⟩
  ·have E:Hid (jl s=false):=by show _=_;unfold jl;rw[dF h1];simp
   go_enter Tryz.func89,Tryz.ntmps89
   go_wp2_with fail
   go_ret
   exact⟨af E.out.symm,bR⟩
 ·have E:Hid (jl s=false):=by show _=_;unfold jl;rw[dF h0];simp
  go_enter Tryz.func89,Tryz.ntmps89
  go_wp2_with fail
  go_ret
  exact⟨af E.out.symm,bR⟩
end
section
open Go.RowKit
theorem kW {s:BA}(h:s.size=0):s.toList=[]:=by rw[ah];exact List.eq_nil_of_length_eq_zero (by rw[ag];exact h)
theorem jJ {s:BA}(h:¬ s.size=0):¬ s.toList=[]:=by rw[ah];intro e;have:=congrArg List.length e;rw[ag] at this;exact h this
theorem yV {x:am}(h1:cy (bl x.path)=true)(h2:¬ (x.kind<1∨4<x.kind))(h3:ju x=true):bA x=1:=by
 unfold bA;rw[if_neg (by rw[h1];decide),if_neg h2,if_pos h3]
def vy (x:am):Int:=if x.kind=3∧jl x.link=false then 10 else if x.kind=4∧(cy (bl x.link)=false∨x.link=x.path) then 10
 else if x.kind≠3∧x.kind≠4∧x.link.size≠0 then 1 else if x.kind≠1∧0<x.data.length then 1 else if 1048576<x.data.length then 4 else 0
theorem nW {x:am}(h1:cy (bl x.path)=true)(h2:¬ (x.kind<1∨4<x.kind))(h3:ju x=false)(h4:kD x.owner=false∨kD x.group=false):bA x=10:=by
 unfold bA;rw[if_neg (by rw[h1];decide),if_neg h2,if_neg (by rw[h3];decide),if_pos h4]
theorem vz {x:am}(h1:cy (bl x.path)=true)(h2:¬ (x.kind<1∨4<x.kind))(h3:ju x=false)(h4:kD x.owner=true)(h5:kD x.group=true):bA x=vy x:=by
 unfold bA vy;rw[if_neg (by rw[h1];decide),if_neg h2,if_neg (by rw[h3];decide),if_neg (by rw[h4,h5];decide)]
structure EB (w wr:World) (x:am):Prop where
 blk:ax wr w.heap.size x.cells
 bel:Below w.heap.size w wr
theorem EB.step {w wr w':World}{x:am}(h:EB w wr x)(hb:Below wr.heap.size wr w'):EB w w' x:=⟨h.blk.below hb,aq h.bel hb⟩
theorem EB.start (w:World)(x:am):EB w (w.alloc (.cells #[.string x.path,.int .i64 x.kind,.int .i64 x.mode,.int .i64 x.uid,.int .i64 x.gid,.string x.owner,.string x.group,.int .i64 x.mtime,.string x.link,.slice x.da x.data.length x.dc] 45)) x:=
 ⟨ax.new w x.cells _,bR.alloc lr _⟩
theorem yW (x:am)(w:World)(hG:Gl w)(hs:x.small):Calls Tryz.prog 60 #[x.val] w fun e w'=>e=.returned (.int .i64 (bA x))∧Below w.heap.size w w':=by
 have HG:=ae hG
 have HS:=ae hs
 clear hG hs
 obtain⟨W0,hW0⟩:∃ W0,w.alloc (.cells #[.string x.path,.int .i64 x.kind,.int .i64 x.mode,.int .i64 x.uid,.int .i64 x.gid,.string x.owner,.string x.group,.int .i64 x.mtime,.string x.link,.slice x.da x.data.length x.dc] 45)=W0:=⟨_,rfl⟩
 have B0:Hid (EB w W0 x):=by show EB _ _ _;rw[←hW0];exact EB.start w x
 have c0:=B0.out.blk.cell 0 _ rfl
 unfold am.val
 go_enter Tryz.func60,Tryz.ntmps60
 go_wp2_with fail
 clear hW0 c0
 refine(iN x.path _ (HG.out.below B0.out.bel) (by have:=HS.out.path;omega)).mono ?_;rintro e w1 ⟨rfl,hb1⟩
 have B1:=ae (B0.out.step hb1)
 clear hb1 B0
 cases h1:cy (bl x.path)
 ·have E:Hid (bA x=10):=by show _=_;unfold bA;rw[if_pos h1]
  clear h1
  go_wp2_with fail
  go_ret
  exact⟨ap E.out.symm,B1.out.bel⟩
 have H1:=ae h1;clear h1
 have c1:=B1.out.blk.cell 1 _ rfl
 by_cases h2:x.kind<1∨4<x.kind
 ·have E:Hid (bA x=9):=by show _=_;unfold bA;rw[if_neg (by rw[H1.out];decide),if_pos h2]
  by_cases h3:x.kind<1
  ·clear h2
   go_wp2_with fail
   go_ret
   exact⟨ap E.out.symm,B1.out.bel⟩
  ·have h4:4<x.kind:=by omega
   clear h2
   go_wp2_with fail
   go_ret
   exact⟨ap E.out.symm,B1.out.bel⟩
 have H2:=ae h2
 have k1:¬ x.kind<1:=fun h=>h2 (.inl h)
 have k2:¬ 4<x.kind:=fun h=>h2 (.inr h)
 clear h2
 have c2:=B1.out.blk.cell 2 _ rfl
 have c3:=B1.out.blk.cell 3 _ rfl
 have c4:=B1.out.blk.cell 4 _ rfl
 have c5:=B1.out.blk.cell 5 _ rfl
 have c7:=B1.out.blk.cell 7 _ rfl
 cases h3:ju x
 ·have H3:=ae h3
  unfold ju at h3
  simp only[Bool.or_eq_false_iff,decide_eq_false_iff_not] at h3
  obtain⟨⟨⟨⟨⟨⟨⟨n1,n2⟩,n3⟩,n4⟩,n5⟩,n6⟩,n7⟩,n8⟩:=h3
  go_wp2_with fail
  refine(pY x.owner _ (by have:=HS.out.owner;omega)).mono ?_;rintro e w2 ⟨rfl,hb2⟩
  have B2:=ae (B1.out.step hb2)
  clear hb2 B1 c1 c2 c3 c4 c5 c7 n1 n2 n3 n4 n5 n6 n7 n8
  cases h4:kD x.owner
  ·have E:Hid (bA x=10):=nW H1.out H2.out H3.out (.inl h4)
   clear h4
   go_wp2_with fail
   go_ret
   exact⟨ap E.out.symm,B2.out.bel⟩
  have H4:=ae h4;clear h4
  have c6:=B2.out.blk.cell 6 _ rfl
  go_wp2_with fail
  refine(pY x.group _ (by have:=HS.out.group;omega)).mono ?_;rintro e w3 ⟨rfl,hb3⟩
  have B3:=ae (B2.out.step hb3)
  clear hb3 B2 c6
  cases h5:kD x.group
  ·have E:Hid (bA x=10):=nW H1.out H2.out H3.out (.inr h5)
   clear h5
   go_wp2_with fail
   go_ret
   exact⟨ap E.out.symm,B3.out.bel⟩
  have HE:Hid (bA x=vy x):=vz H1.out H2.out H3.out H4.out h5
  clear h5 H1 H2 H3 H4
  have c0:=B3.out.blk.cell 0 _ rfl
  have c1:=B3.out.blk.cell 1 _ rfl
  have c8:=B3.out.blk.cell 8 _ rfl
  have c9:=B3.out.blk.cell 9 _ rfl
  unfold vy at HE
  have HK:=HS.out.link
  have HD:=HS.out.data
  have hdm:¬ 1048576<x.data.length:=by omega
  have hdm2:¬ (1048576:Int)<(x.data.length:Int):=by omega
  have B4:Hid (Below w.heap.size w w3):=B3.out.bel
  rcases(by omega:x.kind=1∨x.kind=2∨x.kind=3∨x.kind=4) with hk | hk | hk | hk
  all_goals
   rw[hk] at c1 k1 k2
   have K:=ae hk
   clear hk
  ·skip
   by_cases hl:x.link.size=0
   ·have l1:=kW hl
    have HL:=ae hl;clear hl
    have R:Hid (bA x=0):=by show _=_;rw[HE.out];simp[K.out,HL.out,hdm]
    clear HE
    go_wp2_with fail
    go_ret
    exact⟨ap (by rw[R.out]),B4.out⟩
   ·have l1:=jJ hl
    have l2:x.link.toList.isEmpty=false:=by cases h:x.link.toList with | nil=>exact absurd h l1 | cons a r=>rfl
    have HL:=ae hl;clear hl
    have R:Hid (bA x=1):=by show _=_;rw[HE.out];simp[K.out,HL.out]
    clear HE
    go_wp2_with fail
    go_ret
    exact⟨ap (by rw[R.out]),B4.out⟩
  ·skip
   by_cases hl:x.link.size=0
   ·have l1:=kW hl
    have HL:=ae hl;clear hl
    by_cases hd0:0<x.data.length
    ·have d1:(0:Int)<(x.data.length:Int):=by omega
     have R:Hid (bA x=1):=by show _=_;rw[HE.out];simp[K.out,HL.out,hd0,hdm]
     clear HE
     go_wp2_with fail
     go_ret
     exact⟨ap (by rw[R.out]),B4.out⟩
    ·have d1:¬ (0:Int)<(x.data.length:Int):=by omega
     have R:Hid (bA x=0):=by show _=_;rw[HE.out];simp[K.out,HL.out,hd0,hdm]
     clear HE
     go_wp2_with fail
     go_ret
     exact⟨ap (by rw[R.out]),B4.out⟩
   ·have l1:=jJ hl
    have l2:x.link.toList.isEmpty=false:=by cases h:x.link.toList with | nil=>exact absurd h l1 | cons a r=>rfl
    have HL:=ae hl;clear hl
    have R:Hid (bA x=1):=by show _=_;rw[HE.out];simp[K.out,HL.out]
    clear HE
    go_wp2_with fail
    go_ret
    exact⟨ap (by rw[R.out]),B4.out⟩
  ·go_wp2_with fail
   refine(wY x.link _ (by omega)).mono ?_;rintro e w4 ⟨rfl,hb4⟩
   have B5:Hid (Below w.heap.size w w4):=aq B4.out hb4
   have c9:w4.cell? ⟨w.heap.size,9,none⟩=some (.slice x.da x.data.length x.dc):=(B3.out.blk.below hb4).cell 9 _ rfl
   have c1:w4.cell? ⟨w.heap.size,1,none⟩=some (.int .i64 3):=by have h:=(B3.out.blk.below hb4).cell 1 _ rfl;rw[K.out] at h;exact h
   clear hb4
   cases ht:jl x.link
   ·skip
    have R:Hid (bA x=10):=by show _=_;rw[HE.out];simp[K.out,ht]
    clear HE
    go_wp2_with fail
    go_ret
    exact⟨ap (by rw[R.out]),B5.out⟩
   ·have HT:=ae ht;clear ht
    by_cases hd0:0<x.data.length
    ·have d1:(0:Int)<(x.data.length:Int):=by omega
     have R:Hid (bA x=1):=by show _=_;rw[HE.out];simp[K.out,HT.out,hd0,hdm]
     clear HE
     go_wp2_with fail
     go_ret
     exact⟨ap (by rw[R.out]),B5.out⟩
    ·have d1:¬ (0:Int)<(x.data.length:Int):=by omega
     have R:Hid (bA x=0):=by show _=_;rw[HE.out];simp[K.out,HT.out,hd0,hdm]
     clear HE
     go_wp2_with fail
     go_ret
     exact⟨ap (by rw[R.out]),B5.out⟩
  ·go_wp2_with fail
   refine(iN x.link _ (HG.out.below B4.out) (by omega)).mono ?_;rintro e w4 ⟨rfl,hb4⟩
   have B5:Hid (Below w.heap.size w w4):=aq B4.out hb4
   have c0:w4.cell? ⟨w.heap.size,0,none⟩=some (.string x.path):=(B3.out.blk.below hb4).cell 0 _ rfl
   have c8:w4.cell? ⟨w.heap.size,8,none⟩=some (.string x.link):=(B3.out.blk.below hb4).cell 8 _ rfl
   have c9:w4.cell? ⟨w.heap.size,9,none⟩=some (.slice x.da x.data.length x.dc):=(B3.out.blk.below hb4).cell 9 _ rfl
   have c1:w4.cell? ⟨w.heap.size,1,none⟩=some (.int .i64 4):=by have h:=(B3.out.blk.below hb4).cell 1 _ rfl;rw[K.out] at h;exact h
   clear hb4
   cases ht:cy (bl x.link)
   ·skip
    have R:Hid (bA x=10):=by show _=_;rw[HE.out];simp[K.out,ht]
    clear HE
    go_wp2_with fail
    go_ret
    exact⟨ap (by rw[R.out]),B5.out⟩
   ·have HT:=ae ht;clear ht
    by_cases hlp:x.link=x.path
    ·have e1:(x.link.toList==x.path.toList)=true:=by rw[hlp];simp
     have HLP:=ae hlp;clear hlp
     have R:Hid (bA x=10):=by show _=_;rw[HE.out];simp[K.out,HT.out,HLP.out]
     clear HE
     go_wp2_with fail
     go_ret
     exact⟨ap (by rw[R.out]),B5.out⟩
    ·have e1:(x.link.toList==x.path.toList)=false:=by rw[dx];exact dF hlp
     have HLP:=ae hlp;clear hlp
     by_cases hd0:0<x.data.length
     ·have d1:(0:Int)<(x.data.length:Int):=by omega
      have R:Hid (bA x=1):=by show _=_;rw[HE.out];simp[K.out,HT.out,HLP.out,hd0,hdm]
      clear HE
      go_wp2_with fail
      go_ret
      exact⟨ap (by rw[R.out]),B5.out⟩
     ·have d1:¬ (0:Int)<(x.data.length:Int):=by omega
      have R:Hid (bA x=0):=by show _=_;rw[HE.out];simp[K.out,HT.out,HLP.out,hd0,hdm]
      clear HE
      go_wp2_with fail
      go_ret
      exact⟨ap (by rw[R.out]),B5.out⟩
 ·have E:Hid (bA x=1):=yV H1.out H2.out h3
  unfold ju at h3
  simp only[Bool.or_eq_true,decide_eq_true_iff] at h3
  have N:=ae h3
  clear h3
  go_wp2_with fail
  all_goals first | (go_ret;exact⟨ap E.out.symm,B1.out.bel⟩) | (exfalso;have:=N.out;omega)
def pg (s:BA):BA:=⟨((fK (bl s)).getD []).toArray⟩
def Fo (s:BA):Bool:=(fK (bl s)).isSome
def Fp (s:BA):Value:=.tuple #[.string (pg s),.bool (Fo s)]
theorem vB {s:BA}(h:fK (bl s)=none):Fp s=.tuple #[.string ⟨#[]⟩,.bool false]:=by simp[Fp,pg,Fo,h]
theorem Fq {s:BA}{i:Nat}(h:fK (bl s)=some ((bl s).take i)):Fp s=.tuple #[.string (s.extract 0 i),.bool true]:=by
 simp only[Fp,pg,Fo,h,Option.getD_some,Option.isSome_some]
 congr 3
 apply congrArg;apply dY;rw[ii,dw]
theorem xj (s:BA)(w:World)(hG:Gl w)(hs:s.size≤4294967280):
  Calls Tryz.prog 82 #[.string s] w fun e w'=>e=.returned (Fp s)∧Below w.heap.size w w':=by
 have HG:=ae hG;clear hG
 cases hl:dH 47 (bl s) with
 | none=>
  have E:Hid (fK (bl s)=none):=by show _=_;unfold fK;rw[hl];simp
  have HL:=ae hl;clear hl
  go_enter Tryz.func82,Tryz.ntmps82
  go_wp2_with fail
  refine(cS s 47 _ (by omega) HL).mono ?_;rintro e w' ⟨rfl,rfl⟩
  go_wp2_with fail
  go_ret2
  exact⟨by rw[vB E.out];rfl,bR⟩
 | some i=>
  have hi:i<s.size:=by have:=nK _ _ _ hl;rw[ag] at this;exact this
  cases hp:cy (bl s)
  ·have E:Hid (fK (bl s)=none):=by show _=_;unfold fK;rw[hp];rfl
   have HL:=ae hl;have HP:=ae hp;clear hl hp
   go_enter Tryz.func82,Tryz.ntmps82
   go_wp2_with fail
   refine(bE s 47 i _ (by omega) HL).mono ?_;rintro e w' ⟨rfl,rfl⟩
   go_wp2_with fail
   refine(iN s _ HG.out (by omega)).mono ?_;rintro e w1 ⟨rfl,hb⟩
   rw[HP.out]
   have HB:=ae hb;clear hb
   go_wp2_with fail
   go_ret2
   exact⟨by rw[vB E.out];rfl,HB.out⟩
  ·have E:Hid (fK (bl s)=some ((bl s).take i)):=by show _=_;unfold fK;rw[hp,hl];rfl
   have HL:=ae hl;have HP:=ae hp;clear hl hp
   go_enter Tryz.func82,Tryz.ntmps82
   go_wp2_with fail
   refine(bE s 47 i _ (by omega) HL).mono ?_;rintro e w' ⟨rfl,rfl⟩
   go_wp2_with fail
   refine(iN s _ HG.out (by omega)).mono ?_;rintro e w1 ⟨rfl,hb⟩
   rw[HP.out]
   have HB:=ae hb;clear hb
   go_wp2_with fail
   go_ret2
   exact⟨by rw[Fq E.out];rfl,HB.out⟩
theorem zd (s:BA)(w:World)(hs:s.size≤9223372036854775807):
  Calls Tryz.prog 72 #[.string s] w fun e w'=>e=.returned (.bool (cy (bl s)))∧Below w.heap.size w w':=by
 by_cases h1:s.size<1
 ·have E:Hid (cy (bl s)=false):=by show _=_;unfold cy;rw[ag,show decide (1≤s.size)=false from dF (by omega)];rfl
  go_enter Tryz.func72,Tryz.ntmps72
  go_wp2_with fail
  go_ret
  exact⟨af E.out.symm,bR⟩
 by_cases h2:200<s.size
 ·have E:Hid (cy (bl s)=false):=by show _=_;unfold cy;rw[ag,show decide (s.size≤200)=false from dF (by omega)];simp
  go_enter Tryz.func72,Tryz.ntmps72
  go_wp2_with fail
  go_ret
  exact⟨af E.out.symm,bR⟩
 go_enter Tryz.func72,Tryz.ntmps72
 go_wp2_with fail
 refine(qY s 0 _ hs).mono ?_;rintro e w' ⟨rfl,rfl⟩
 unfold iq
 cases h0:(bl s).contains 0
 ·go_wp2_with fail
  refine(Fg s _ (by omega)).mono ?_;rintro e w1 ⟨Ap,cp,rfl,hr,hb⟩
  have HR:=ae hr;have HB:=ae hb;clear hr hb
  have hN:(bH s).length≤201:=by rw[jm];have:=gD (bl s);rw[ag] at this;omega
  have E:Hid (cy (bl s)=(bT (bl s)).all rJ):=by show _=_;unfold cy;rw[h0,ag,show decide (1≤s.size)=true from dT (by omega),show decide (s.size≤200)=true from dT (by omega)];simp
  have HL:=ae (jm s)
  clear h0
  go_wp2_with fail
  go_loop [4] (fun i=>∃ k:Nat,k≤(bH s).length∧i=.int .i64 k∧Hid (((bT (bl s)).take k).all rJ=true)) (fun i=>(bH s).length-(intOf i).toNat)
  case atStart=>exact⟨0,z0,rfl,by simp[Hid]⟩
  case round=>
   obtain⟨k,hk,rfl,HA⟩:=hrel
   by_cases hlt:k<(bH s).length
   ·obtain⟨x,hx⟩:∃ x,(bH s)[k]?=some x:=⟨_,gG hlt⟩
    obtain⟨b,off,hA,he⟩:=HR.out.str k x hx
    have hix:=fun W=>aI (T:=26) (E:=9) (sz:=1) (c:=cp) Tryz.underlying26 rfl Tryz.sizeOf9 hA hlt W
    simp only[Nat.mul_one] at hix
    have HX:=ae (pX s k x hx)
    clear hx hA
    go_wp2_with fail
    ·go_ret
     exact⟨af (by rw[E.out];exact(gE HX.out (by rw[gL];simp_all)).symm),HB.out⟩
    ·go_ret
     exact⟨af (by rw[E.out];exact(gE HX.out (by rw[gL];simp_all)).symm),HB.out⟩
    ·go_ret
     exact⟨af (by rw[E.out];exact(gE HX.out (by rw[gL];simp_all)).symm),HB.out⟩
    ·go_round
     case rel=>exact⟨k+1,by omega,by go_num,ae (rN HX.out HA.out (by rw[gL];simp_all))⟩
     case measure=>simp[intOf];omega
   ·go_wp2_with fail
    go_ret
    exact⟨af (by rw[E.out];have:=HA.out;rw[tL (by rw[←HL.out];omega)] at this;exact this.symm),HB.out⟩
 ·have E:Hid (cy (bl s)=false):=by show _=_;unfold cy;rw[h0];simp
  go_wp2_with fail
  go_ret
  exact⟨af E.out.symm,bR⟩
def KW (fmt n:Int):Bool:=decide ((1≤n∧n≤4)∨(fmt=1∧n=7)∨(fmt=3∧(n=5∨n=6)))
def KX (fmt:Int)(x:bd):Bool:=KW fmt x.phase&&decide (1≤x.body.size∧x.body.size≤4096) && !(bl x.body).contains 0
def qN:List bd→Bool
 | x::y::r=>decide (x.phase<y.phase)&&qN (y::r)
 | _=>true
def dE (fmt:Int)(l:List bd):Int:=if 7<l.length then 4 else if qN l=false then 15 else if l.all (KX fmt)=true then 0 else 1
theorem wk:∀ (l:List bd),(∀ (i:Nat) x y,l[i]?=some x→l[i+1]?=some y→x.phase<y.phase)→qN l=true
 | [],_=>rfl
 | [x],_=>rfl
 | x::y::r,h=>by
  rw[qN,dT (h 0 x y rfl rfl),wk (y::r) (fun i a b ha hb=>h (i+1) a b (by simpa using ha) (by simpa using hb))];rfl
theorem tO:∀ (l:List bd)(i:Nat)(x y:bd),l[i]?=some x→l[i+1]?=some y→¬ x.phase<y.phase→qN l=false
 | [],i,x,y,h,_,_=>by simp at h
 | [z],i,x,y,h,h',_=>by
  have:=(gS h').1
  simp at this
 | a::b::r,0,x,y,h,h',hn=>by
  simp at h h';subst h h'
  rw[qN,dF hn];rfl
 | a::b::r,i+1,x,y,h,h',hn=>by
  rw[qN,tO (b::r) i x y (by simpa using h) (by simpa using h') hn,Bool.and_false]
theorem pA (fmt n:Int)(hfmt:fmt=1∨fmt=2∨fmt=3)(w:World):
  Calls Tryz.prog 86 #[.int .i64 fmt,.int .i64 n] w fun e w'=>e=.returned (.bool (KW fmt n))∧w=w':=by
 by_cases h1:1≤n
 ·by_cases h4:n≤4
  ·have E:Hid (KW fmt n=true):=dT (.inl ⟨h1,h4⟩)
   have t4:decide (n≤4)=true:=dT h4
   have t6:decide (n≤6)=true:=dT (by omega)
   have t1:decide (1≤n)=true:=dT h1
   rcases hfmt with rfl | rfl | rfl
   all_goals
    go_enter Tryz.func86,Tryz.ntmps86
    go_wp2_with fail
    go_ret
    exact⟨af (by rw[E.out]),rfl⟩
  ·have t4:decide (n≤4)=false:=dF h4
   have t1:decide (1≤n)=true:=dT h1
   rcases hfmt with rfl | rfl | rfl
   ·by_cases h7:n=7
    ·have E:Hid (KW 1 n=true):=dT (by omega)
     have t7:(n==7)=true:=by simpa using h7
     clear h7
     go_enter Tryz.func86,Tryz.ntmps86
     go_wp2_with fail
     go_ret
     exact⟨af (by rw[E.out]),rfl⟩
    ·have E:Hid (KW 1 n=false):=dF (by omega)
     have t7:(n==7)=false:=by simpa using h7
     clear h7
     go_enter Tryz.func86,Tryz.ntmps86
     go_wp2_with fail
     go_ret
     exact⟨af (by rw[E.out]),rfl⟩
   ·have E:Hid (KW 2 n=false):=dF (by omega)
    go_enter Tryz.func86,Tryz.ntmps86
    go_wp2_with fail
    go_ret
    exact⟨af (by rw[E.out]),rfl⟩
   ·by_cases h6:n≤6
    ·have E:Hid (KW 3 n=true):=dT (by omega)
     have t6:decide (n≤6)=true:=dT h6
     go_enter Tryz.func86,Tryz.ntmps86
     go_wp2_with fail
     go_ret
     exact⟨af (by rw[E.out]),rfl⟩
    ·have E:Hid (KW 3 n=false):=dF (by omega)
     have t6:decide (n≤6)=false:=dF h6
     go_enter Tryz.func86,Tryz.ntmps86
     go_wp2_with fail
     go_ret
     exact⟨af (by rw[E.out]),rfl⟩
 ·have E:Hid (KW fmt n=false):=dF (by omega)
  have t1:decide (1≤n)=false:=dF h1
  have t7:(n==7)=false:=by simp;omega
  rcases hfmt with rfl | rfl | rfl
  all_goals
   go_enter Tryz.func86,Tryz.ntmps86
   go_wp2_with fail
   go_ret
   exact⟨af (by rw[E.out]),rfl⟩
def CX (l:List bd)(k:Nat):Prop:=∀ (i:Nat) x y,i+1<k→l[i]?=some x→l[i+1]?=some y→x.phase<y.phase
theorem CX.all {l:List bd}{k:Nat}(h:CX l k)(hk:l.length≤k):qN l=true:=
 wk l fun i x y hx hy=>h i x y (Nat.lt_of_lt_of_le (gS hy).1 hk) hx hy
theorem CX.next {l:List bd}{k:Nat}{x y:bd}(h:CX l k)(hx:l[k-1]?=some x)(hy:l[k]?=some y)(hlt:x.phase<y.phase):CX l (k+1):=by
 intro i a b hi ha hb
 by_cases e:i+1=k
 ·subst e
  rw[Nat.add_sub_cancel] at hx
  rw[hx] at ha;rw[hy] at hb
  injection ha with ha;injection hb with hb
  subst ha hb;exact hlt
 ·exact h i a b (by omega) ha hb
theorem CX.one {l:List bd}:CX l 1:=fun i x y hi=>by omega
theorem CX.zero {l:List bd}:CX l 0:=fun i x y hi=>by omega
theorem tP {fmt:Int}{l:List bd}(h7:¬ 7<l.length)(h:qN l=false):dE fmt l=15:=by unfold dE;rw[if_neg h7,if_pos h]
theorem ix {fmt:Int}{l:List bd}(h7:¬ 7<l.length)(h:qN l=true)(ha:l.all (KX fmt)=false):dE fmt l=1:=by unfold dE;rw[if_neg h7,h,ha];rfl
theorem Ab {fmt:Int}{l:List bd}(h7:¬ 7<l.length)(h:qN l=true)(ha:l.all (KX fmt)=true):dE fmt l=0:=by unfold dE;rw[if_neg h7,h,ha];rfl
theorem nj (fmt:Int)(hfmt:fmt=1∨fmt=2∨fmt=3)(A:OA)(c:Nat)(l:List bd)(w:World)(hr:Rd w 2 A l.length (l.flatMap bd.cells))(hn:l.length≤9223372036854775807)(hf:∀ x∈l,x.body.size≤4294967280):
  Calls Tryz.prog 59 #[.int .i64 fmt,.slice A l.length c] w fun e w'=>e=.returned (.int .i64 (dE fmt l))∧Below w.heap.size w w':=by
 have HR:=ae hr;have HF:=ae hf
 clear hr hf
 by_cases h7:7<l.length
 ·have E:Hid (dE fmt l=4):=by show _=_;unfold dE;rw[if_pos h7]
  go_enter Tryz.func59,Tryz.ntmps59
  go_wp2_with fail
  go_ret
  exact⟨ap (by rw[E.out]),bR⟩
 go_enter Tryz.func59,Tryz.ntmps59
 go_wp2_with fail
 go_loopw [14] (fun i wr=>∃ k:Nat,k≤l.length∧i=.int .i64 k∧Hid (CX l k)∧Hid (Below w.heap.size w wr)) (fun i _=>l.length-(intOf i).toNat)
 case atStart=>exact⟨0,z0,rfl,CX.zero,bR⟩
 case round=>
  obtain⟨k,hk,rfl,HI,HB⟩:=hrel
  by_cases hlt:k<l.length
  ·obtain⟨y,hy⟩:∃ y,l[k]?=some y:=⟨_,gG hlt⟩
   by_cases k0:k=0
   ·have k0':decide (0<(k:Int))=false:=dF (by omega)
    have k0n:decide (0<k)=false:=dF (by omega)
    have HI2:Hid (CX l (k+1)):=by show CX _ _;rw[k0];exact CX.one
    clear k0 hy
    go_wp2_with fail
    go_quiet (fail)
    go_wp2_with fail
    go_roundw
    case rel=>exact⟨k+1,by omega,by go_num,HI2,ae (an HB.out _)⟩
    case measure=>simp[intOf];omega
   ·have k0':decide (0<(k:Int))=true:=dT (by omega)
    have k0n:decide (0<k)=true:=dT (by omega)
    have kpos:0<k:=by omega
    obtain⟨x,hx⟩:∃ x,l[k-1]?=some x:=⟨_,gG (by omega)⟩
    obtain⟨b1,off1,hA1,he1⟩:=(HR.out.below HB.out).elem jY k y hy
    obtain⟨b2,off2,hA2,he2⟩:=(HR.out.below HB.out).elem jY (k-1) x hx
    have p1:=he1 0 _ rfl
    have p2:=he2 0 _ rfl
    simp only[Nat.add_zero] at p1 p2
    have hix1:=fun W=>aI (T:=37) (E:=112) (sz:=2) (c:=c) Tryz.underlying37 rfl Tryz.sizeOf112 hA1 hlt W
    have hix2:=fun W=>ra (T:=37) (E:=112) (sz:=2) (c:=c) (i:=(k:Int)-1) Tryz.underlying37 rfl Tryz.sizeOf112 (by omega) hA2 (show k-1<l.length by omega) W
    have iw:IntKind.i64.wrap ((k:Int)-1)=(k:Int)-1:=IntWalk.i64_in _ (by omega)
    have HX:=ae hx;have HY:=ae hy
    clear hx hy hA1 hA2 he1 he2 k0
    by_cases hp:x.phase<y.phase
    ·have HI2:Hid (CX l (k+1)):=HI.out.next HX.out HY.out hp
     have hp2:decide (y.phase≤x.phase)=false:=dF (by omega)
     go_wp2_with fail
     go_quiet (fail)
     go_wp2_with fail
     clear iw hix1 hix2
     go_roundw
     case rel=>exact⟨k+1,by omega,by go_num,HI2,ae (an HB.out _)⟩
     case measure=>simp[intOf];omega
    ·have E:=ae (tP (fmt:=fmt) h7 (tO l (k-1) x y HX.out (by rw[show k-1+1=k by omega];exact HY.out) hp))
     have hp2:decide (y.phase≤x.phase)=true:=dT (by omega)
     go_wp2_with fail
     go_quiet (fail)
     go_wp2_with fail
     go_ret
     exact⟨ap (by rw[E.out]),an HB.out _⟩
  ·have HIN:Hid (qN l=true):=HI.out.all (by omega)
   go_wp2_with fail
   go_loopw [36] (fun i wr=>∃ k:Nat,k≤l.length∧i=.int .i64 k∧Hid ((l.take k).all (KX fmt)=true)∧Hid (Below w.heap.size w wr)) (fun i _=>l.length-(intOf i).toNat)
   case atStart=>exact⟨0,z0,rfl,by simp[Hid],HB⟩
   case round=>
    clear HB
    obtain⟨m,hm,rfl,HA,HB⟩:=hrel
    by_cases hlt2:m<l.length
    ·obtain⟨x,hx⟩:∃ x,l[m]?=some x:=⟨_,gG hlt2⟩
     have hbs:=HF.out x (gM hx)
     obtain⟨b1,off1,hA1,he1⟩:=(HR.out.below HB.out).elem jY m x hx
     have p1:=he1 0 _ rfl
     have p2:=he1 1 _ rfl
     simp only[Nat.add_zero] at p1
     have hix1:=fun W=>aI (T:=37) (E:=112) (sz:=2) (c:=c) Tryz.underlying37 rfl Tryz.sizeOf112 hA1 hlt2 W
     have HX:=ae hx
     have HB2:Hid (Below w.heap.size w (wr.alloc (.cells #[.int .i64 x.phase,.string x.body] 112))):=HB.out.alloc HB.out.size _
     clear hx hA1 he1
     go_wp2_with fail
     refine(pA fmt x.phase hfmt _).mono ?_;rintro e w' ⟨rfl,rfl⟩
     cases g1:KW fmt x.phase
     ·have E:=ae (ix (fmt:=fmt) h7 HIN.out (gE HX.out (by unfold KX;rw[g1];rfl)))
      clear g1
      go_wp2_with fail
      go_ret
      exact⟨ap (by rw[E.out]),HB2.out⟩
     by_cases s1:x.body.size<1
     ·have E:=ae (ix (fmt:=fmt) h7 HIN.out (gE HX.out (by unfold KX;rw[dF];simp)))
      clear g1
      go_wp2_with fail
      go_ret
      exact⟨ap (by rw[E.out]),HB2.out⟩
     by_cases s2:4096<x.body.size
     ·have E:=ae (ix (fmt:=fmt) h7 HIN.out (gE HX.out (by unfold KX;rw[dF];simp)))
      clear g1
      go_wp2_with fail
      go_ret
      exact⟨ap (by rw[E.out]),HB2.out⟩
     have G1:=ae g1;clear g1
     go_wp2_with fail
     refine(vv x.body _).mono ?_;rintro e w' ⟨rfl,rfl⟩
     cases g2:(bl x.body).contains 0
     ·have HA2:Hid ((l.take (m+1)).all (KX fmt)=true):=rN HX.out HA.out (by unfold KX;rw[G1.out,g2,dT];rfl)
      clear g2
      go_wp2_with fail
      go_roundw
      case rel=>exact⟨m+1,by omega,by go_num,HA2,HB2⟩
      case measure=>simp[intOf];omega
     ·have E:=ae (ix (fmt:=fmt) h7 HIN.out (gE HX.out (by unfold KX;rw[g2];simp)))
      clear g2
      go_wp2_with fail
      go_ret
      exact⟨ap (by rw[E.out]),HB2.out⟩
    ·have E:=ae (Ab (fmt:=fmt) h7 HIN.out (by have:=HA.out;rw[tL (by omega)] at this;exact this))
     go_wp2_with fail
     go_ret
     exact⟨ap (by rw[E.out]),HB.out⟩
theorem ft {w:World}{A:OA}{n:Nat}{l:LU}(h:Rd w 1 A n (l.map vb)):l.length=n:=by have:=h.1;simpa using this
theorem wt {l:LU}{j:Nat}{c:UInt8}(h:l[j]?=some c):l.take (j+1)=l.take j++[c]:=by
 rw[List.take_add_one,h];rfl
theorem GX {l:LU}{j:Nat}(hj:j<8):wm (l.take j)≤72057594037927935:=by
 have h:=C9 (l.take j)
 have h2:256 ^ (l.take j).length≤256 ^ 7:=Nat.pow_le_pow_right (by decide) (by rw[List.length_take];omega)
 have:(256:Nat) ^ 7=72057594037927936:=by decide
 omega
theorem GY {l:LU}{j:Nat}(hj:j<8):Id (l.take j)≤72057594037927935:=by
 have h:=Da (l.take j)
 have h2:256 ^ (l.take j).length≤256 ^ 7:=Nat.pow_le_pow_right (by decide) (by rw[List.length_take];omega)
 have:(256:Nat) ^ 7=72057594037927936:=by decide
 omega
theorem OE (x c:Nat)(hx:x≤72057594037927935)(hc:c<256):bits .or .u64 ((x:Int)*256) (c:Int)=((x*256+c:Nat):Int):=by
 have h:=bits_or_u64_nat (x*256) c (by omega) (by omega)
 rw[show x*256 ||| c=x*256+c from JU 8 hc] at h
 rw[←h];simp
theorem JV (ch:UInt8){j s:Nat}(hj:j<8)(hp:256 ^ j=2 ^ s):((ch.toNat:Int)*2 ^ s) % 18446744073709551616=((ch.toNat*256 ^ j:Nat):Int):=by
 have h1:ch.toNat*256 ^ j<256*256 ^ j:=Nat.mul_lt_mul_of_pos_right ch.toNat_lt (Nat.pow_pos (by decide))
 have h2:256*256 ^ j≤256 ^ 8:=by rw[Nat.mul_comm,←Nat.pow_succ];exact Nat.pow_le_pow_right (by decide) (by omega)
 have h3:(256:Nat) ^ 8=18446744073709551616:=by decide
 have h4:((ch.toNat:Int)*2 ^ s)=((ch.toNat*256 ^ j:Nat):Int):=by rw[hp];simp
 rw[h4]
 omega
theorem OF {x j s:Nat}(ch:UInt8)(hx:x<256 ^ j)(hj:j<8)(hp:256 ^ j=2 ^ s):bits .or .u64 (x:Int) ((ch.toNat*256 ^ j:Nat):Int)=((x+ch.toNat*256 ^ j:Nat):Int):=by
 have h1:ch.toNat*256 ^ j<256*256 ^ j:=Nat.mul_lt_mul_of_pos_right ch.toNat_lt (Nat.pow_pos (by decide))
 have h2:256*256 ^ j≤256 ^ 8:=by rw[Nat.mul_comm,←Nat.pow_succ];exact Nat.pow_le_pow_right (by decide) (by omega)
 have h3:(256:Nat) ^ 8=18446744073709551616:=by decide
 have h5:256 ^ j≤256 ^ 8:=Nat.pow_le_pow_right (by decide) (by omega)
 rw[bits_or_u64_nat x (ch.toNat*256 ^ j) (by omega) (by omega)]
 have:=JU (x:=ch.toNat) s (show x<2 ^ s by rw[←hp];exact hx)
 rw[Nat.or_comm,hp,this,Nat.add_comm]
theorem At (A:OA)(n c i k:Nat)(l:LU)(w:World)(hr:Rd w 1 A n (l.map vb))(hk:1≤k)(hk8:k≤8)(hi:i+k≤n)(hc:n≤c)(hc2:c≤4611686018427387904):
  Calls Tryz.prog 125 #[.slice A n c,.int .i64 i,.int .i64 k] w fun e w'=>e=.returned (.tuple #[.int .u64 (wm ((l.drop i).take k)),.bool true])∧w'=w:=by
 have hl:=ft hr
 obtain⟨jk,hjk⟩:∃ jk,i+k=jk:=⟨_,rfl⟩
 have hsl:=fun W=>wq (T:=43) (E:=5) (sz:=1) Tryz.underlying43 rfl Tryz.sizeOf5 (A:=A) (n:=n) (c:=c) (i:=i) (j:=jk) (by omega) (by omega) W
 have R2:=hr.cut (i:=i) (j:=jk) (c:=c) (by omega) (by omega) hc
 obtain⟨A2,hA2⟩:∃ A2,(if c=i then A else A.map (·.add (i*1)))=A2:=⟨_,rfl⟩
 rw[hA2,show jk-i=k by omega] at hsl R2
 rw[←List.map_drop,←List.map_take] at R2
 obtain⟨l2,hl2⟩:∃ l2,(l.drop i).take k=l2:=⟨_,rfl⟩
 rw[hl2] at R2 ⊢
 have hl2l:=ft R2
 have hci:((i:Int)+(k:Int))=(jk:Int):=by omega
 have d1:decide ((k:Int)<1)=false:=dF (by omega)
 have d2:decide ((8:Int)<(k:Int))=false:=dF (by omega)
 have d3:decide ((i:Int)<0)=false:=dF (by omega)
 have d4:decide ((n:Int)-(k:Int)<(i:Int))=false:=dF (by omega)
 have HR:=ae R2
 have HL:=ae hl2l
 clear hr hl hA2 R2 hl2 hl2l hjk
 go_enter Tryz.func125,Tryz.ntmps125
 go_wp2_with fail
 go_loop [36,8] (fun s36 s8=>∃ (j x:Nat),j≤k∧s36=.int .i64 j∧s8=.int .u64 x∧Hid (x=wm (l2.take j))) (fun s36 _=>k-(intOf s36).toNat)
 case atStart=>exact⟨0,0,z0,rfl,rfl,rfl⟩
 case round=>
  obtain⟨j,x,hj,rfl,rfl,HX⟩:=hrel
  by_cases hlt:j<k
  ·obtain⟨ch,hch⟩:∃ ch,l2[j]?=some ch:=⟨_,gG (by rw[HL.out];exact hlt)⟩
   obtain⟨b,off,hA,he⟩:=HR.out.2 (by omega)
   have e0:=he j (vb ch) (by rw[List.getElem?_map,hch];rfl)
   have hix:=fun W=>aI (T:=43) (E:=5) (sz:=1) (c:=c-i) Tryz.underlying43 rfl Tryz.sizeOf5 hA hlt W
   have hxs:x≤72057594037927935:=by rw[HX.out];exact GX (by omega)
   have hor:=OE x ch.toNat hxs ch.toNat_lt
   have hct:=ch.toNat_lt
   have HN:Hid (x*256+ch.toNat=wm (l2.take (j+1))):=by show _=_;rw[wt hch,JP,HX.out]
   unfold vb at e0
   clear he hA hch HX
   go_wp2_with fail
   go_round
   case rel=>exact⟨j+1,_,by omega,by go_num,rfl,HN⟩
   case measure=>simp[intOf];omega
  ·go_wp2_with fail
   go_ret2
   exact⟨by rw[HX.out,tL (by rw[HL.out];omega)];rfl,rfl⟩
theorem Au (A:OA)(n c i k:Nat)(l:LU)(w:World)(hr:Rd w 1 A n (l.map vb))(hk:1≤k)(hk8:k≤8)(hi:i+k≤n)(hc:n≤c)(hc2:c≤4611686018427387904):
  Calls Tryz.prog 126 #[.slice A n c,.int .i64 i,.int .i64 k] w fun e w'=>e=.returned (.tuple #[.int .u64 (Id ((l.drop i).take k)),.bool true])∧w'=w:=by
 have hl:=ft hr
 obtain⟨jk,hjk⟩:∃ jk,i+k=jk:=⟨_,rfl⟩
 have hsl:=fun W=>wq (T:=43) (E:=5) (sz:=1) Tryz.underlying43 rfl Tryz.sizeOf5 (A:=A) (n:=n) (c:=c) (i:=i) (j:=jk) (by omega) (by omega) W
 have R2:=hr.cut (i:=i) (j:=jk) (c:=c) (by omega) (by omega) hc
 obtain⟨A2,hA2⟩:∃ A2,(if c=i then A else A.map (·.add (i*1)))=A2:=⟨_,rfl⟩
 rw[hA2,show jk-i=k by omega] at hsl R2
 rw[←List.map_drop,←List.map_take] at R2
 obtain⟨l2,hl2⟩:∃ l2,(l.drop i).take k=l2:=⟨_,rfl⟩
 rw[hl2] at R2 ⊢
 have hl2l:=ft R2
 have hci:((i:Int)+(k:Int))=(jk:Int):=by omega
 have d1:decide ((k:Int)<1)=false:=dF (by omega)
 have d2:decide ((8:Int)<(k:Int))=false:=dF (by omega)
 have d3:decide ((i:Int)<0)=false:=dF (by omega)
 have d4:decide ((n:Int)-(k:Int)<(i:Int))=false:=dF (by omega)
 have HR:=ae R2
 have HL:=ae hl2l
 clear hr hl hA2 R2 hl2 hl2l hjk
 go_enter Tryz.func126,Tryz.ntmps126
 go_wp2_with fail
 go_loop [36,8] (fun s36 s8=>∃ (j x:Nat),j≤k∧s36=.int .i64 j∧s8=.int .u64 x∧Hid (x=Id (l2.take j))) (fun s36 _=>k-(intOf s36).toNat)
 case atStart=>exact⟨0,0,z0,rfl,rfl,rfl⟩
 case round=>
  obtain⟨j,x,hj,rfl,rfl,HX⟩:=hrel
  by_cases hlt:j<k
  ·obtain⟨ch,hch⟩:∃ ch,l2[j]?=some ch:=⟨_,gG (by rw[HL.out];exact hlt)⟩
   obtain⟨b,off,hA,he⟩:=HR.out.2 (by omega)
   have e0:=he j (vb ch) (by rw[List.getElem?_map,hch];rfl)
   have hix:=fun W=>aI (T:=43) (E:=5) (sz:=1) (c:=c-i) Tryz.underlying43 rfl Tryz.sizeOf5 hA hlt W
   have hxs:x≤72057594037927935:=by rw[HX.out];exact GY (by omega)
   have hct:=ch.toNat_lt
   obtain⟨s,hs⟩:∃ s,8*j=s:=⟨_,rfl⟩
   have hsi:(8:Int)*(j:Int)=(s:Int):=by omega
   have hs56:s≤56:=by omega
   obtain⟨y,hy⟩:∃ y,ch.toNat*256 ^ j=y:=⟨_,rfl⟩
   have hp:256 ^ j=2 ^ s:=by rw[←hs,Nat.pow_mul]
   have hsh:=JV ch (j:=j) (s:=s) (by omega) hp
   rw[hy] at hsh
   have hshw:=(IntKind.wrap_u64 ((ch.toNat:Int)*2 ^ s)).trans hsh
   have hx6:x<256 ^ j:=by have:=Da (l2.take j);rw[List.length_take,Nat.min_eq_left (by rw[HL.out];omega),←HX.out] at this;exact this
   have hor:=OF (j:=j) (s:=s) ch hx6 (by omega) hp
   rw[hy] at hor
   have HN:Hid (x+y=Id (l2.take (j+1))):=by show _=_;rw[wt hch,JQ,HX.out,List.length_take,Nat.min_eq_left (by rw[HL.out];omega),hy]
   unfold vb at e0
   clear he hA hch HX hy hp hs hx6
   go_wp2_with fail
   go_round
   case rel=>exact⟨j+1,_,by omega,by go_num,rfl,HN⟩
   case measure=>simp[intOf];omega
  ·go_wp2_with fail
   go_ret2
   exact⟨by rw[HX.out,tL (by rw[HL.out];omega)];rfl,rfl⟩
def OG:LU:=[48,49,50,51,52,53,54,55,56,57,97,98,99,100,101,102]
def Dl (k:Nat):UInt8:=OG.getD k 48
def pG (l:LU):LU:=l.flatMap fun c=>[Dl (c.toNat / 16),Dl (c.toNat % 16)]
theorem Hb {l:LU}{i:Nat}{c:UInt8}(h:l[i]?=some c):pG (l.take (i+1))=pG (l.take i)++[Dl (c.toNat / 16),Dl (c.toNat % 16)]:=by
 unfold pG
 rw[List.take_add_one,h,List.flatMap_append]
 rfl
theorem AA:∀ k:Nat,k<16→∀ W:World,(Instr.index 9 (.string ⟨#[48,49,50,51,52,53,54,55,56,57,97,98,99,100,101,102]⟩) (.int .u8 (k:Int))).run Tryz.prog W=.ok (.int .u8 (Dl k).toNat) W:=by
 intro k hk W
 rcases(show k=0∨k=1∨k=2∨k=3∨k=4∨k=5∨k=6∨k=7∨k=8∨k=9∨k=10∨k=11∨k=12∨k=13∨k=14∨k=15 by omega) with rfl | rfl | rfl | rfl | rfl | rfl | rfl | rfl | rfl | rfl | rfl | rfl | rfl | rfl | rfl | rfl<;>kernel_rfl
theorem OH:∀ k:Nat,k<256→bits .and .u8 (k:Int) 15=((k % 16:Nat):Int):=by decide
theorem Hc (w:World)(t:TypeId)(x y:Value):iF ((w.alloc (.cells #[x,y] t)).drew) (w.heap.size+1) 1 (some ⟨w.heap.size,0,none⟩) 2 [x,y]:=by
 refine⟨rfl,fun _=>⟨_,rfl,by simp,fun j u hu=>?_⟩⟩
 rw[tV]
 exact(ax.new w [x,y] t).cell j u hu
theorem Hd (n c:Nat)(A:OA)(bs:LU)(w:World)(hr:Rd w 1 A n (bs.map vb))(hn:n≤1000000):
  Calls Tryz.prog 33 #[.slice A n c] w fun e w'=>e=.returned (.string ⟨(pG bs).toArray⟩)∧Below w.heap.size w w':=by
 obtain⟨i0,hi0,hz0,hz1,hz2⟩:=info_parts oI
 have HR:=ae hr
 have HBL:Hid (bs.length=n):=ft hr
 have e2:(2:Int)*(n:Int)=((2*n:Nat):Int):=by omega
 obtain⟨n2,hn2⟩:∃ n2,2*n=n2:=⟨_,rfl⟩
 rw[hn2] at e2
 have HN2:=ae hn2
 have hn2b:n2≤2000000:=by omega
 clear hr hn2
 go_enter Tryz.func33,Tryz.ntmps33
 go_wp2_with (
  refine wpList_make_own _ rfl _ _ 43 rfl w.heap.size 5 i0 _ 1 Tryz.underlying43 hi0 hz0 hz1 .i64 .i64 _ n2 rfl rfl rfl (by rw[hz2];omega) (by simp only[maxLen];omega) (by omega) ?_
  intro w1 hr1 hg1)
 have O1:=ae hr1
 have L1:=ae ((Below.refl w.heap.size w).grown hg1 lr (by simp))
 clear hr1 hg1
 go_wp2_with fail
 go_loopw [12,3] (fun s12 s3 wr=>∃ (i q:Nat) (Ao:OA) (co:Nat),i≤n∧s12=.int .i64 i∧s3=.slice Ao q co∧q≤2000000∧Hid (q=2*i)∧Hid (wr.ownsRow w.heap.size 5 1 (.slice Ao q co) q (Lib.byteCells (pG (bs.take i))))∧Hid (Below w.heap.size w wr)) (fun s12 _ _=>n-(intOf s12).toNat)
 case atStart=>exact⟨0,0,_,_,by omega,rfl,rfl,by omega,rfl,O1,L1⟩
 case round=>
  obtain⟨i,q,Ao,co,hi,rfl,rfl,hq,HQ,HO,HL⟩:=hrel
  by_cases hlt:i<n
  ·obtain⟨ch,hch⟩:∃ ch,bs[i]?=some ch:=⟨_,gG (by rw[HBL.out];exact hlt)⟩
   obtain⟨b,off,hA,he⟩:=(HR.out.below HL.out).2 (by omega)
   have c0:=he i (vb ch) (by rw[List.getElem?_map,hch];rfl)
   have hix:=fun W=>aI (T:=43) (E:=5) (sz:=1) (c:=c) Tryz.underlying43 rfl Tryz.sizeOf5 hA hlt W
   have hcl:=ch.toNat_lt
   obtain⟨h1,hh1⟩:∃ k,ch.toNat / 16=k:=⟨_,rfl⟩
   obtain⟨h2,hh2⟩:∃ k,ch.toNat % 16=k:=⟨_,rfl⟩
   have x1:(ch.toNat:Int) / 16=(h1:Int):=by omega
   have x2:(ch.toNat:Int) % 16=(h2:Int):=by omega
   have x3:bits .and .u8 (ch.toNat:Int) 15=(h2:Int):=by rw[OH ch.toNat hcl,hh2]
   have hx1:=AA h1 (by omega)
   have hx2:=AA h2 (by omega)
   obtain⟨d1,hd1⟩:∃ d,Dl h1=d:=⟨_,rfl⟩
   obtain⟨d2,hd2⟩:∃ d,Dl h2=d:=⟨_,rfl⟩
   rw[hd1] at hx1
   rw[hd2] at hx2
   have HN:Hid (Lib.byteCells (pG (bs.take (i+1)))=Lib.byteCells (pG (bs.take i))++[.int .u8 d1.toNat,.int .u8 d2.toNat]):=by
    show _=_
    rw[Hb hch,hh1,hh2,hd1,hd2]
    simp[Lib.byteCells]
   have hq2:q+2≤2000000:=by have:=HQ.out;omega
   have HQ2:Hid (q+2=2*(i+1)):=by have:=HQ.out;show _=_;omega
   have hwz:=HL.out.size
   unfold vb at c0
   clear hA he hch hh1 hh2 hd1 hd2
   go_wp2_with fail
   go_region_law (
    refine cn _ (by rfl) _ _ _ (by rfl) w.heap.size 5 i0 _ 1 1 Tryz.underlying43 hi0 hz0 hz1 hz2 rfl (by omega) (.slice Ao q co) q _ (by rfl) ((HO.out.alloc _).drew) (wr.heap.size+1) (some ⟨wr.heap.size,0,none⟩) 2 2 _ (by rfl) (Hc wr _ _ _) (by simp[Value.oneCell']) (by simp only[maxLen];omega) (by omega) (by simp;omega) ?_
    intro v1 w6 hown1 hg1 hat1)
   all_goals
    obtain⟨A1,c1,rfl⟩:=aP hown1
    have O6:Hid (w6.ownsRow w.heap.size 5 1 (.slice A1 (q+2) c1) (q+2) (Lib.byteCells (pG (bs.take (i+1))))):=by
     show World.ownsRow _ _ _ _ _ _ _
     rw[HN.out]
     exact hown1
    have L6:Hid (Below w.heap.size w w6):=(an (HL.out.alloc hwz _) 1).grown hg1 (Nat.le_trans hwz (by simp)) (fun p hp=>(HO.out.lt p hp).1)
    clear hown1 hg1 hat1
    go_wp2_with fail
    go_roundw
    case rel=>exact⟨i+1,q+2,A1,c1,by omega,by go_num,rfl,hq2,HQ2,O6,L6⟩
    case measure=>simp[intOf];omega
  ·have HI:Hid (i=n):=by show _=_;omega
   have hO:=HO.out
   rw[HI.out,tL (by rw[HBL.out];exact Nat.le_refl _)] at hO
   have hlen:(pG bs).length=q:=by have:=hO.1;simpa [Lib.byteCells] using this
   have hcv:(convert 43 9 (.slice Ao q co)).run Tryz.prog wr=.ok (.string ⟨(pG bs).toArray⟩) wr:=by
    rcases hO.2 with⟨hv,_⟩ | ⟨g,cap,cur,hv,_⟩
    ·injection hv with h1 h2 h3
     subst h1 h2 h3
     have hnil:pG bs=[]:=List.length_eq_zero_iff.1 hlen
     rw[hnil]
     simp[convert,run_underlying Tryz.underlying43,run_underlying Tryz.underlying5,run_underlying Tryz.underlying9,Conv.bytesToString]
     rfl
    ·injection hv with h1 h2 h3
     subst h1 h3
     have h:=run_convert_bytes_back (P:=Tryz.prog) wr 43 9 5 ⟨g,0,none⟩ co (pG bs) Tryz.underlying43 Tryz.underlying5 Tryz.underlying9 (fun j hj=>by
      refine hO.cells (g:=g) rfl j _ ?_
      unfold Lib.byteCells;rw[List.getElem?_map,gG hj];rfl)
     rw[hlen] at h
     exact h
   clear hO hlen
   go_wp2_with fail
   go_ret
   exact⟨rfl,HL.out⟩
def MK (fmt:Int):Nat:=if fmt=1 then 1 else if fmt=2 then 3 else 2
def Kf (fmt:Int)(bs:LU):BA:=⟨(pG (fV (MK fmt) bs)).toArray⟩
def ek:List av→BA→Option av
 | [],_=>none
 | x::r,s=>match ek r s with
  | some k=>some k
  | none=>if x.path=s then some x else none
end
section
open Go.RowKit Go.Maps
def Ny (x:am):Value:=.agg #[.int .i64 x.mode,.int .i64 x.uid,.int .i64 x.gid,.string x.owner,.string x.group,.int .i64 x.mtime]
theorem uc (x:am)(w:World):Calls Tryz.prog 61 #[x.val] w fun e w'=>e=.returned (Ny x)∧Below w.heap.size w w':=by
 unfold am.val
 go_enter Tryz.func61,Tryz.ntmps61
 go_wp2_with fail
 refine bodyPost_ret (v:=Ny x) (by simp[results,Tryz.results61,go_sem,Ny]) rfl ⟨rfl,?_⟩
 exact(bR.alloc lr _).alloc (by simp) _
theorem Dm (x y:am)(w:World):(binOp .neq 124 (.agg #[.int .i64 x.mode,.int .i64 x.uid,.int .i64 x.gid,.string x.owner,.string x.group,.int .i64 x.mtime]) (.agg #[.int .i64 y.mode,.int .i64 y.uid,.int .i64 y.gid,.string y.owner,.string y.group,.int .i64 y.mtime])).run Tryz.prog w=.ok (.bool (!gp x y)) w:=by
 go_simp
 unfold gp
 (repeat' split)<;>simp_all
theorem En {pre:List am}{x:am}(h:bA x≠0):fZ pre x=bA x:=by unfold fZ;rw[if_pos h]
theorem wu {pre:List am}{x y:am}(h:bA x=0)(h2:aV pre x.path=some y):fZ pre x=8:=by unfold fZ;rw[if_neg (by simp[h]),if_pos (by rw[h2];rfl)]
theorem oJ {pre:List am}{x:am}(h:bA x=0)(h2:aV pre x.path=none)(h3:x.kind=4)(h4:cC pre x≠0):fZ pre x=cC pre x:=by
 unfold fZ;rw[if_neg (by simp[h]),if_neg (by rw[h2];simp),if_pos ⟨h3,h4⟩]
theorem Nz {pre:List am}{x y:am}{s:BA}(h:bA x=0)(h2:aV pre x.path=none)(h3:x.kind=4→cC pre x=0)(hs:s∈aL x.path)(hy:aV pre s=some y)(hk:y.kind≠2):fZ pre x=9:=by
 unfold fZ;rw[if_neg (by simp[h]),if_neg (by rw[h2];simp),if_neg (fun e=>e.2 (h3 e.1)),if_pos (List.any_eq_true.2 ⟨s,hs,by rw[hy];simpa using hk⟩)]
theorem He {pre:List am}{x:am}(h:bA x=0)(h2:aV pre x.path=none)(h3:x.kind=4→cC pre x=0)(hk:x.kind≠2)(ha:kX pre x.path=true):fZ pre x=9:=by
 unfold fZ;rw[if_neg (by simp[h]),if_neg (by rw[h2];simp),if_neg (fun e=>e.2 (h3 e.1))]
 split
 ·rfl
 ·rw[if_pos ⟨hk,ha⟩]
theorem AC {pre:List am}{x:am}(h:bA x=0)(h2:aV pre x.path=none)(h3:x.kind=4→cC pre x=0)(h4:∀ s∈aL x.path,∀ y,aV pre s=some y→y.kind=2)(h5:x.kind=2∨kX pre x.path=false):fZ pre x=0:=by
 refine IL h h2 h3 h4 fun hk y hy hm=>?_
 rcases h5 with h5 | h5
 ·exact hk h5
 ·unfold kX at h5
  rw[List.any_eq_false] at h5
  exact h5 y hy (iL.2 hm)
theorem pH {x:am}(h:bA x=0):x.path.size≤200:=by
 unfold bA at h
 split at h
 ·simp at h
 ·rename_i hp
  have:cy (bl x.path)=true:=by simpa using hp
  unfold cy at this
  rw[Bool.and_eq_true,Bool.and_eq_true,Bool.and_eq_true] at this
  have:=dO this.1.1.2
  rw[ag] at this;exact this
theorem nx {α:Type}{l:List α}{k:Nat}{x:α}(h:l[k]?=some x):l.take (k+1)=l.take k++[x]:=by
 obtain⟨hk,hx⟩:=gS h
 rw[tS hk,hx]
theorem iP.look0 {w:World}{c m1 m2 n2:Nat}{v:Value}{l:List am}{ps:List BA}(h:iP w c m1 m2 n2 v l ps)(s:BA)(hs:s.size≤maxLen):
  (Instr.lookup 87 (.map (some m1)) (.string s) true).run Tryz.prog w=.ok (.tuple #[.int .i64 ((cO l s).getD 0:Nat),.bool (cO l s).isSome]) w:=h.look1 s hs 0
theorem Eo (x:am)(w:World):Calls Tryz.prog 61 #[.agg #[.string x.path,.int .i64 x.kind,.int .i64 x.mode,.int .i64 x.uid,.int .i64 x.gid,.string x.owner,.string x.group,.int .i64 x.mtime,.string x.link,.slice x.da x.data.length x.dc]] w fun e w'=>e=.returned (.agg #[.int .i64 x.mode,.int .i64 x.uid,.int .i64 x.gid,.string x.owner,.string x.group,.int .i64 x.mtime])∧Below w.heap.size w w':=uc x w
theorem AF (A:OA)(cap:Nat)(l pre:List am)(c m1 m2 n2:Nat)(x:am)(w:World)(hG:Gl w)(hE:dz w A l)(hC:iP w c m1 m2 n2 (.slice A l.length cap) pre [])
  (hp:∀ (i:Nat)(y:am),pre[i]?=some y→l[i]?=some y)(hs:x.small)(hl:l.length≤100000):
  Calls Tryz.prog 31 #[.pointer (some ⟨c,0,none⟩),x.val] w fun e w'=>e=.returned (.int .i64 (fZ pre x))∧Below w.heap.size w w':=by
 have HG:=ae hG
 have HE:=ae hE
 have HC:=ae hC
 have HP:=ae hp
 have HS:=ae hs
 clear hG hE hC hp hs
 obtain⟨W0,hW0⟩:∃ W0,w.alloc (.cells #[.string x.path,.int .i64 x.kind,.int .i64 x.mode,.int .i64 x.uid,.int .i64 x.gid,.string x.owner,.string x.group,.int .i64 x.mtime,.string x.link,.slice x.da x.data.length x.dc] 45)=W0:=⟨_,rfl⟩
 have B0:Hid (EB w W0 x):=by show EB _ _ _;rw[←hW0];exact EB.start w x
 have C0:Hid (iP W0 c m1 m2 n2 (.slice A l.length cap) pre []):=HC.out.below (by have:=B0.out.bel;exact this)
 have c0:=B0.out.blk.cell 0 _ rfl
 have c1:=B0.out.blk.cell 1 _ rfl
 have c2:=B0.out.blk.cell 2 _ rfl
 have c3:=B0.out.blk.cell 3 _ rfl
 have c4:=B0.out.blk.cell 4 _ rfl
 have c5:=B0.out.blk.cell 5 _ rfl
 have c6:=B0.out.blk.cell 6 _ rfl
 have c7:=B0.out.blk.cell 7 _ rfl
 have c8:=B0.out.blk.cell 8 _ rfl
 have c9:=B0.out.blk.cell 9 _ rfl
 unfold am.val
 go_enter Tryz.func31,Tryz.ntmps31
 go_wp2_with fail
 clear hW0 c0 c1 c2 c3 c4 c5 c6 c7 c8 c9
 have CK:=yW x W0 (HG.out.below B0.out.bel) HS.out
 unfold am.val at CK
 refine CK.mono ?_;rintro e w1 ⟨rfl,hb1⟩
 have B1:=ae (B0.out.step hb1)
 have C1:=ae (C0.out.below hb1)
 clear hb1 CK B0 C0
 by_cases he:bA x=0
 case neg=>
  have q:(bA x != 0)=true:=by simpa using he
  have R:Hid (fZ pre x=bA x):=En he
  clear he
  go_wp2_with fail
  go_ret
  exact⟨ap R.out.symm,B1.out.bel⟩
 rw[he]
 have Z:=ae he;clear he
 have hps:x.path.size≤maxLen:=by have:=HS.out.path;unfold maxLen;omega
 have hls:x.link.size≤maxLen:=by have:=HS.out.link;unfold maxLen;omega
 have c0:=B1.out.blk.cell 0 _ rfl
 have k1:=C1.out.blk.cell 1 _ rfl
 have q1:=C1.out.look1 x.path hps
 rcases iO pre x.path with⟨p1,p2⟩ | ⟨i,y,p1,p2,p3,p4⟩
 case inr=>
  rw[p1] at q1
  simp only[Option.getD_some,Option.isSome_some] at q1
  have R:Hid (fZ pre x=8):=wu Z.out p3
  clear p1 p2 p3 p4
  go_wp2_with fail
  go_quiet (fail)
  go_wp2_with fail
  go_ret
  exact⟨ap R.out.symm,an B1.out.bel _⟩
 rw[p1] at q1
 simp only[Option.getD_none,Option.isSome_none] at q1
 have P:=ae p2;clear p1 p2
 go_wp2_with fail
 go_quiet (fail)
 have c1:=B1.out.blk.cell 1 _ rfl
 go_upto_if 34 with(fail)
 clear c0 c1 k1 q1
 have HB:=fun n=>(show Below w1.heap.size w1 (w1.drewN n) from⟨rfl,rfl,rfl,lr,fun _ _=>rfl⟩)
 generalize hW:w1.drewN _=w2
 have B2:Hid (EB w w2 x):=by show EB _ _ _;rw[←hW];exact B1.out.step (HB _)
 have C2:Hid (iP w2 c m1 m2 n2 (.slice A l.length cap) pre []):=by show iP _ _ _ _ _ _ _ _;rw[←hW];exact C1.out.below (HB _)
 clear hW HB B1 C1
 go_cut [] (fun wx=>Hid (EB w wx x)∧Hid (iP wx c m1 m2 n2 (.slice A l.length cap) pre [])∧Hid (x.kind=4→cC pre x=0))
 case first=>
  have c1:=B2.out.blk.cell 1 _ rfl
  by_cases hk:x.kind=4
  case neg=>
   have q:(x.kind==4)=false:=by simpa using hk
   have K:=ae hk;clear hk
   go_wp2_with fail
   go_meet
   exact⟨B2,C2,fun h=>absurd h K.out⟩
  have q:(x.kind==4)=true:=by simpa using hk
  have K:=ae hk;clear hk
  have c8:=B2.out.blk.cell 8 _ rfl
  have k0:=C2.out.blk.cell 0 _ rfl
  have k1:=C2.out.blk.cell 1 _ rfl
  have q1:=C2.out.look1 x.link hls
  rcases iO pre x.link with⟨p1,p2⟩ | ⟨i,y,p1,p2,p3,p4⟩
  case inl=>
   rw[p1] at q1
   simp only[Option.getD_none,Option.isSome_none] at q1
   have H:cC pre x=15:=by unfold cC;rw[p2]
   have R:Hid (fZ pre x=15):=by show _=_;rw[oJ Z.out P.out K.out (by rw[H];decide),H]
   clear p1 p2 H
   go_wp2_with fail
   go_quiet (fail)
   go_wp2_with fail
   go_ret
   exact⟨ap R.out.symm,an B2.out.bel _⟩
  rw[p1] at q1
  simp only[Option.getD_some,Option.isSome_some] at q1
  obtain⟨b,off,hA,hel⟩:=((HE.out.below B2.out.bel).row).elem fi i y (HP.out i y p2)
  have hi:i<l.length:=(gS (HP.out i y p2)).1
  have hix:=fun W=>aI (T:=23) (E:=45) (sz:=10) (c:=cap) Tryz.underlying23 rfl Tryz.sizeOf45 hA hi W
  have e0:=hel 0 _ rfl
  have e1:=hel 1 _ rfl
  have e2:=hel 2 _ rfl
  have e3:=hel 3 _ rfl
  have e4:=hel 4 _ rfl
  have e5:=hel 5 _ rfl
  have e6:=hel 6 _ rfl
  have e7:=hel 7 _ rfl
  have e8:=hel 8 _ rfl
  have e9:=hel 9 _ rfl
  simp only[Nat.add_zero] at e0
  have F:=ae p3
  clear p1 p2 p3 p4 hA hel
  by_cases hy:y.kind=1
  case neg=>
   have q2:(y.kind != 1)=true:=by simpa using hy
   have H:cC pre x=15:=by unfold cC;rw[F.out];simp[hy]
   have R:Hid (fZ pre x=15):=by show _=_;rw[oJ Z.out P.out K.out (by rw[H];decide),H]
   clear H hy
   go_wp2_with fail
   go_quiet (fail)
   go_wp2_with fail
   go_ret
   exact⟨ap R.out.symm,an B2.out.bel _⟩
  have q2:(y.kind != 1)=false:=by simp[hy]
  have Y:=ae hy;clear hy
  go_wp2_with fail
  go_quiet (fail)
  go_wp2_with fail
  have HB:=fun n=>(show Below w2.heap.size w2 (w2.drewN n) from⟨rfl,rfl,rfl,lr,fun _ _=>rfl⟩)
  generalize hW:w2.drewN _=w3
  have B3:Hid (EB w w3 x):=by show EB _ _ _;rw[←hW];exact B2.out.step (HB _)
  have C3:Hid (iP w3 c m1 m2 n2 (.slice A l.length cap) pre []):=by show iP _ _ _ _ _ _ _ _;rw[←hW];exact C2.out.below (HB _)
  have f0:w3.cell? ⟨b,off+i*10,none⟩=some (.string y.path):=by rw[←hW];exact e0
  have f1:w3.cell? ⟨b,off+i*10+1,none⟩=some (.int .i64 y.kind):=by rw[←hW];exact e1
  have f2:w3.cell? ⟨b,off+i*10+2,none⟩=some (.int .i64 y.mode):=by rw[←hW];exact e2
  have f3:w3.cell? ⟨b,off+i*10+3,none⟩=some (.int .i64 y.uid):=by rw[←hW];exact e3
  have f4:w3.cell? ⟨b,off+i*10+4,none⟩=some (.int .i64 y.gid):=by rw[←hW];exact e4
  have f5:w3.cell? ⟨b,off+i*10+5,none⟩=some (.string y.owner):=by rw[←hW];exact e5
  have f6:w3.cell? ⟨b,off+i*10+6,none⟩=some (.string y.group):=by rw[←hW];exact e6
  have f7:w3.cell? ⟨b,off+i*10+7,none⟩=some (.int .i64 y.mtime):=by rw[←hW];exact e7
  have f8:w3.cell? ⟨b,off+i*10+8,none⟩=some (.string y.link):=by rw[←hW];exact e8
  have f9:w3.cell? ⟨b,off+i*10+9,none⟩=some (.slice y.da y.data.length y.dc):=by rw[←hW];exact e9
  clear hW HB B2 C2 c1 c8 k0 k1 q1 e0 e1 e2 e3 e4 e5 e6 e7 e8 e9
  have c0:=B3.out.blk.cell 0 _ rfl
  have c1:=B3.out.blk.cell 1 _ rfl
  have c2:=B3.out.blk.cell 2 _ rfl
  have c3:=B3.out.blk.cell 3 _ rfl
  have c4:=B3.out.blk.cell 4 _ rfl
  have c5:=B3.out.blk.cell 5 _ rfl
  have c6:=B3.out.blk.cell 6 _ rfl
  have c7:=B3.out.blk.cell 7 _ rfl
  have c8:=B3.out.blk.cell 8 _ rfl
  have c9:=B3.out.blk.cell 9 _ rfl
  have k0:=C3.out.blk.cell 0 _ rfl
  have hq:=fun W=>Dm x y W
  obtain⟨cb,hcb⟩:∃ cb,gp x y=cb:=⟨_,rfl⟩
  rw[hcb] at hq
  have CB:=ae hcb;clear hcb
  have lb:=World.block_lt_of_cell? _ _ f0
  have lw:=B3.out.blk.sz
  have lc:=C3.out.blk.sz
  go_region_held3 (fun w'=>w'.cell? ⟨w.heap.size,0,none⟩=some (.string x.path)∧w'.cell? ⟨w.heap.size,1,none⟩=some (.int .i64 x.kind)∧w'.cell? ⟨w.heap.size,2,none⟩=some (.int .i64 x.mode)∧w'.cell? ⟨w.heap.size,3,none⟩=some (.int .i64 x.uid)∧w'.cell? ⟨w.heap.size,4,none⟩=some (.int .i64 x.gid)∧w'.cell? ⟨w.heap.size,5,none⟩=some (.string x.owner)∧w'.cell? ⟨w.heap.size,6,none⟩=some (.string x.group)∧w'.cell? ⟨w.heap.size,7,none⟩=some (.int .i64 x.mtime)∧w'.cell? ⟨w.heap.size,8,none⟩=some (.string x.link)∧w'.cell? ⟨w.heap.size,9,none⟩=some (.slice x.da x.data.length x.dc)∧w'.cell? ⟨c,0,none⟩=some (.slice A l.length cap)∧w'.cell? ⟨b,off+i*10,none⟩=some (.string y.path)∧w'.cell? ⟨b,off+i*10+1,none⟩=some (.int .i64 y.kind)∧w'.cell? ⟨b,off+i*10+2,none⟩=some (.int .i64 y.mode)∧w'.cell? ⟨b,off+i*10+3,none⟩=some (.int .i64 y.uid)∧w'.cell? ⟨b,off+i*10+4,none⟩=some (.int .i64 y.gid)∧w'.cell? ⟨b,off+i*10+5,none⟩=some (.string y.owner)∧w'.cell? ⟨b,off+i*10+6,none⟩=some (.string y.group)∧w'.cell? ⟨b,off+i*10+7,none⟩=some (.int .i64 y.mtime)∧w'.cell? ⟨b,off+i*10+8,none⟩=some (.string y.link)∧w'.cell? ⟨b,off+i*10+9,none⟩=some (.slice y.da y.data.length y.dc))
   (first
     | exact⟨c0,c1,c2,c3,c4,c5,c6,c7,c8,c9,k0,f0,f1,f2,f3,f4,f5,f6,f7,f8,f9⟩
     | exact⟨(hb5.cell (p:=⟨w.heap.size,0,none⟩) lw).trans c0,(hb5.cell (p:=⟨w.heap.size,1,none⟩) lw).trans c1,(hb5.cell (p:=⟨w.heap.size,2,none⟩) lw).trans c2,(hb5.cell (p:=⟨w.heap.size,3,none⟩) lw).trans c3,(hb5.cell (p:=⟨w.heap.size,4,none⟩) lw).trans c4,(hb5.cell (p:=⟨w.heap.size,5,none⟩) lw).trans c5,(hb5.cell (p:=⟨w.heap.size,6,none⟩) lw).trans c6,(hb5.cell (p:=⟨w.heap.size,7,none⟩) lw).trans c7,(hb5.cell (p:=⟨w.heap.size,8,none⟩) lw).trans c8,(hb5.cell (p:=⟨w.heap.size,9,none⟩) lw).trans c9,(hb5.cell (p:=⟨c,0,none⟩) lc).trans k0,(hb5.cell (p:=⟨b,off+i*10,none⟩) lb).trans f0,(hb5.cell (p:=⟨b,off+i*10+1,none⟩) lb).trans f1,(hb5.cell (p:=⟨b,off+i*10+2,none⟩) lb).trans f2,(hb5.cell (p:=⟨b,off+i*10+3,none⟩) lb).trans f3,(hb5.cell (p:=⟨b,off+i*10+4,none⟩) lb).trans f4,(hb5.cell (p:=⟨b,off+i*10+5,none⟩) lb).trans f5,(hb5.cell (p:=⟨b,off+i*10+6,none⟩) lb).trans f6,(hb5.cell (p:=⟨b,off+i*10+7,none⟩) lb).trans f7,(hb5.cell (p:=⟨b,off+i*10+8,none⟩) lb).trans f8,(hb5.cell (p:=⟨b,off+i*10+9,none⟩) lb).trans f9⟩
     | exact⟨(hb6.cell (p:=⟨w.heap.size,0,none⟩) lw).trans c0,(hb6.cell (p:=⟨w.heap.size,1,none⟩) lw).trans c1,(hb6.cell (p:=⟨w.heap.size,2,none⟩) lw).trans c2,(hb6.cell (p:=⟨w.heap.size,3,none⟩) lw).trans c3,(hb6.cell (p:=⟨w.heap.size,4,none⟩) lw).trans c4,(hb6.cell (p:=⟨w.heap.size,5,none⟩) lw).trans c5,(hb6.cell (p:=⟨w.heap.size,6,none⟩) lw).trans c6,(hb6.cell (p:=⟨w.heap.size,7,none⟩) lw).trans c7,(hb6.cell (p:=⟨w.heap.size,8,none⟩) lw).trans c8,(hb6.cell (p:=⟨w.heap.size,9,none⟩) lw).trans c9,(hb6.cell (p:=⟨c,0,none⟩) lc).trans k0,(hb6.cell (p:=⟨b,off+i*10,none⟩) lb).trans f0,(hb6.cell (p:=⟨b,off+i*10+1,none⟩) lb).trans f1,(hb6.cell (p:=⟨b,off+i*10+2,none⟩) lb).trans f2,(hb6.cell (p:=⟨b,off+i*10+3,none⟩) lb).trans f3,(hb6.cell (p:=⟨b,off+i*10+4,none⟩) lb).trans f4,(hb6.cell (p:=⟨b,off+i*10+5,none⟩) lb).trans f5,(hb6.cell (p:=⟨b,off+i*10+6,none⟩) lb).trans f6,(hb6.cell (p:=⟨b,off+i*10+7,none⟩) lb).trans f7,(hb6.cell (p:=⟨b,off+i*10+8,none⟩) lb).trans f8,(hb6.cell (p:=⟨b,off+i*10+9,none⟩) lb).trans f9⟩
     | exact⟨(hb6.cell (p:=⟨w.heap.size,0,none⟩) (Nat.lt_of_lt_of_le lw hb5.size)).trans ((hb5.cell (p:=⟨w.heap.size,0,none⟩) lw).trans c0),(hb6.cell (p:=⟨w.heap.size,1,none⟩) (Nat.lt_of_lt_of_le lw hb5.size)).trans ((hb5.cell (p:=⟨w.heap.size,1,none⟩) lw).trans c1),(hb6.cell (p:=⟨w.heap.size,2,none⟩) (Nat.lt_of_lt_of_le lw hb5.size)).trans ((hb5.cell (p:=⟨w.heap.size,2,none⟩) lw).trans c2),(hb6.cell (p:=⟨w.heap.size,3,none⟩) (Nat.lt_of_lt_of_le lw hb5.size)).trans ((hb5.cell (p:=⟨w.heap.size,3,none⟩) lw).trans c3),(hb6.cell (p:=⟨w.heap.size,4,none⟩) (Nat.lt_of_lt_of_le lw hb5.size)).trans ((hb5.cell (p:=⟨w.heap.size,4,none⟩) lw).trans c4),(hb6.cell (p:=⟨w.heap.size,5,none⟩) (Nat.lt_of_lt_of_le lw hb5.size)).trans ((hb5.cell (p:=⟨w.heap.size,5,none⟩) lw).trans c5),(hb6.cell (p:=⟨w.heap.size,6,none⟩) (Nat.lt_of_lt_of_le lw hb5.size)).trans ((hb5.cell (p:=⟨w.heap.size,6,none⟩) lw).trans c6),(hb6.cell (p:=⟨w.heap.size,7,none⟩) (Nat.lt_of_lt_of_le lw hb5.size)).trans ((hb5.cell (p:=⟨w.heap.size,7,none⟩) lw).trans c7),(hb6.cell (p:=⟨w.heap.size,8,none⟩) (Nat.lt_of_lt_of_le lw hb5.size)).trans ((hb5.cell (p:=⟨w.heap.size,8,none⟩) lw).trans c8),(hb6.cell (p:=⟨w.heap.size,9,none⟩) (Nat.lt_of_lt_of_le lw hb5.size)).trans ((hb5.cell (p:=⟨w.heap.size,9,none⟩) lw).trans c9),(hb6.cell (p:=⟨c,0,none⟩) (Nat.lt_of_lt_of_le lc hb5.size)).trans ((hb5.cell (p:=⟨c,0,none⟩) lc).trans k0),(hb6.cell (p:=⟨b,off+i*10,none⟩) (Nat.lt_of_lt_of_le lb hb5.size)).trans ((hb5.cell (p:=⟨b,off+i*10,none⟩) lb).trans f0),(hb6.cell (p:=⟨b,off+i*10+1,none⟩) (Nat.lt_of_lt_of_le lb hb5.size)).trans ((hb5.cell (p:=⟨b,off+i*10+1,none⟩) lb).trans f1),(hb6.cell (p:=⟨b,off+i*10+2,none⟩) (Nat.lt_of_lt_of_le lb hb5.size)).trans ((hb5.cell (p:=⟨b,off+i*10+2,none⟩) lb).trans f2),(hb6.cell (p:=⟨b,off+i*10+3,none⟩) (Nat.lt_of_lt_of_le lb hb5.size)).trans ((hb5.cell (p:=⟨b,off+i*10+3,none⟩) lb).trans f3),(hb6.cell (p:=⟨b,off+i*10+4,none⟩) (Nat.lt_of_lt_of_le lb hb5.size)).trans ((hb5.cell (p:=⟨b,off+i*10+4,none⟩) lb).trans f4),(hb6.cell (p:=⟨b,off+i*10+5,none⟩) (Nat.lt_of_lt_of_le lb hb5.size)).trans ((hb5.cell (p:=⟨b,off+i*10+5,none⟩) lb).trans f5),(hb6.cell (p:=⟨b,off+i*10+6,none⟩) (Nat.lt_of_lt_of_le lb hb5.size)).trans ((hb5.cell (p:=⟨b,off+i*10+6,none⟩) lb).trans f6),(hb6.cell (p:=⟨b,off+i*10+7,none⟩) (Nat.lt_of_lt_of_le lb hb5.size)).trans ((hb5.cell (p:=⟨b,off+i*10+7,none⟩) lb).trans f7),(hb6.cell (p:=⟨b,off+i*10+8,none⟩) (Nat.lt_of_lt_of_le lb hb5.size)).trans ((hb5.cell (p:=⟨b,off+i*10+8,none⟩) lb).trans f8),(hb6.cell (p:=⟨b,off+i*10+9,none⟩) (Nat.lt_of_lt_of_le lb hb5.size)).trans ((hb5.cell (p:=⟨b,off+i*10+9,none⟩) lb).trans f9)⟩
     | exact⟨(hb5.cell (p:=⟨w.heap.size,0,none⟩) (Nat.lt_of_lt_of_le lw hb6.size)).trans ((hb6.cell (p:=⟨w.heap.size,0,none⟩) lw).trans c0),(hb5.cell (p:=⟨w.heap.size,1,none⟩) (Nat.lt_of_lt_of_le lw hb6.size)).trans ((hb6.cell (p:=⟨w.heap.size,1,none⟩) lw).trans c1),(hb5.cell (p:=⟨w.heap.size,2,none⟩) (Nat.lt_of_lt_of_le lw hb6.size)).trans ((hb6.cell (p:=⟨w.heap.size,2,none⟩) lw).trans c2),(hb5.cell (p:=⟨w.heap.size,3,none⟩) (Nat.lt_of_lt_of_le lw hb6.size)).trans ((hb6.cell (p:=⟨w.heap.size,3,none⟩) lw).trans c3),(hb5.cell (p:=⟨w.heap.size,4,none⟩) (Nat.lt_of_lt_of_le lw hb6.size)).trans ((hb6.cell (p:=⟨w.heap.size,4,none⟩) lw).trans c4),(hb5.cell (p:=⟨w.heap.size,5,none⟩) (Nat.lt_of_lt_of_le lw hb6.size)).trans ((hb6.cell (p:=⟨w.heap.size,5,none⟩) lw).trans c5),(hb5.cell (p:=⟨w.heap.size,6,none⟩) (Nat.lt_of_lt_of_le lw hb6.size)).trans ((hb6.cell (p:=⟨w.heap.size,6,none⟩) lw).trans c6),(hb5.cell (p:=⟨w.heap.size,7,none⟩) (Nat.lt_of_lt_of_le lw hb6.size)).trans ((hb6.cell (p:=⟨w.heap.size,7,none⟩) lw).trans c7),(hb5.cell (p:=⟨w.heap.size,8,none⟩) (Nat.lt_of_lt_of_le lw hb6.size)).trans ((hb6.cell (p:=⟨w.heap.size,8,none⟩) lw).trans c8),(hb5.cell (p:=⟨w.heap.size,9,none⟩) (Nat.lt_of_lt_of_le lw hb6.size)).trans ((hb6.cell (p:=⟨w.heap.size,9,none⟩) lw).trans c9),(hb5.cell (p:=⟨c,0,none⟩) (Nat.lt_of_lt_of_le lc hb6.size)).trans ((hb6.cell (p:=⟨c,0,none⟩) lc).trans k0),(hb5.cell (p:=⟨b,off+i*10,none⟩) (Nat.lt_of_lt_of_le lb hb6.size)).trans ((hb6.cell (p:=⟨b,off+i*10,none⟩) lb).trans f0),(hb5.cell (p:=⟨b,off+i*10+1,none⟩) (Nat.lt_of_lt_of_le lb hb6.size)).trans ((hb6.cell (p:=⟨b,off+i*10+1,none⟩) lb).trans f1),(hb5.cell (p:=⟨b,off+i*10+2,none⟩) (Nat.lt_of_lt_of_le lb hb6.size)).trans ((hb6.cell (p:=⟨b,off+i*10+2,none⟩) lb).trans f2),(hb5.cell (p:=⟨b,off+i*10+3,none⟩) (Nat.lt_of_lt_of_le lb hb6.size)).trans ((hb6.cell (p:=⟨b,off+i*10+3,none⟩) lb).trans f3),(hb5.cell (p:=⟨b,off+i*10+4,none⟩) (Nat.lt_of_lt_of_le lb hb6.size)).trans ((hb6.cell (p:=⟨b,off+i*10+4,none⟩) lb).trans f4),(hb5.cell (p:=⟨b,off+i*10+5,none⟩) (Nat.lt_of_lt_of_le lb hb6.size)).trans ((hb6.cell (p:=⟨b,off+i*10+5,none⟩) lb).trans f5),(hb5.cell (p:=⟨b,off+i*10+6,none⟩) (Nat.lt_of_lt_of_le lb hb6.size)).trans ((hb6.cell (p:=⟨b,off+i*10+6,none⟩) lb).trans f6),(hb5.cell (p:=⟨b,off+i*10+7,none⟩) (Nat.lt_of_lt_of_le lb hb6.size)).trans ((hb6.cell (p:=⟨b,off+i*10+7,none⟩) lb).trans f7),(hb5.cell (p:=⟨b,off+i*10+8,none⟩) (Nat.lt_of_lt_of_le lb hb6.size)).trans ((hb6.cell (p:=⟨b,off+i*10+8,none⟩) lb).trans f8),(hb5.cell (p:=⟨b,off+i*10+9,none⟩) (Nat.lt_of_lt_of_le lb hb6.size)).trans ((hb6.cell (p:=⟨b,off+i*10+9,none⟩) lb).trans f9)⟩)
   (first
     | (go_at_call 61;(with_reducible refine(Eo x _).mono ?_);rintro e w5 ⟨rfl,hb5⟩)
     | (go_at_call 61;(with_reducible refine(Eo y _).mono ?_);rintro e w6 ⟨rfl,hb6⟩))
  all_goals
   first
   | (have B5:Hid (EB w w6 x):=(B3.out.step (show Below w3.heap.size w3 w5 from⟨hb5.os,hb5.tape,hb5.output,hb5.size,hb5.block⟩)).step hb6
      have C5:Hid (iP w6 c m1 m2 n2 (.slice A l.length cap) pre []):=(C3.out.below (show Below w3.heap.size w3 w5 from⟨hb5.os,hb5.tape,hb5.output,hb5.size,hb5.block⟩)).below hb6
      generalize w6=wz at *)
   | (have B5:Hid (EB w w5 x):=(B3.out.step (show Below w3.heap.size w3 w6 from⟨hb6.os,hb6.tape,hb6.output,hb6.size,hb6.block⟩)).step hb5
      have C5:Hid (iP w5 c m1 m2 n2 (.slice A l.length cap) pre []):=(C3.out.below (show Below w3.heap.size w3 w6 from⟨hb6.os,hb6.tape,hb6.output,hb6.size,hb6.block⟩)).below hb5
      generalize w5=wz at *)
   clear hq hb5 hb6 lb lw lc k0 c0 f0 c1 f1 c2 f2 c3 f3 c4 f4 c5 f5 c6 f6 c7 f7 c8 f8 c9 f9
   cases cb
   ·have H:cC pre x=1:=by unfold cC;rw[F.out];simp[Y.out,CB.out]
    have R:Hid (fZ pre x=1):=by show _=_;rw[oJ Z.out P.out K.out (by rw[H];decide),H]
    clear H
    go_wp2_with fail
    go_ret
    exact⟨ap R.out.symm,B5.out.bel⟩
   ·have H:Hid (cC pre x=0):=yX F.out Y.out CB.out
    go_wp2_with fail
    go_meet
    exact⟨B5,C5,fun _=>H.out⟩
 case rest=>
  obtain⟨B3,C3,H4⟩:=hcut
  clear B2 C2
  have c0:=B3.out.blk.cell 0 _ rfl
  go_wp2_with fail
  refine(mx x.path _ (by have:=(pH Z.out);omega)).mono ?_;rintro e w4 ⟨Ap,cp,rfl,hr,hb4⟩
  have B4:=ae (B3.out.step hb4)
  have C4:=ae (C3.out.below hb4)
  have R4:=ae (cH hr)
  clear hr hb4 B3 C3 c0
  have hpl:(aL x.path).length≤200:=by have:=rM x.path;have:=pH Z.out;omega
  go_wp2_with fail
  go_loopw [73] (fun i wr=>∃ (k:Nat),k≤(aL x.path).length∧i=.int .i64 k∧Hid (EB w wr x)∧Hid (iP wr c m1 m2 n2 (.slice A l.length cap) pre [])∧Hid (Rd wr 1 Ap (aL x.path).length (az (aL x.path)))∧Hid (∀ s∈(aL x.path).take k,∀ y,aV pre s=some y→y.kind=2)) (fun i _=>(aL x.path).length-(intOf i).toNat)
  case atStart=>exact⟨0,z0,rfl,B4,C4,R4,by intro s hs;simp at hs⟩
  case round=>
   obtain⟨k,hk,rfl,B5,C5,R5,U5⟩:=hrel
   clear B4 C4 R4
   by_cases hlt:k<(aL x.path).length
   case pos=>
    obtain⟨s,hs⟩:∃ s,(aL x.path)[k]?=some s:=⟨_,gG hlt⟩
    obtain⟨bp,op,hAp,hep⟩:=R5.out.str k s hs
    have hixp:=fun W=>aI (T:=26) (E:=9) (sz:=1) (c:=cp) Tryz.underlying26 rfl Tryz.sizeOf9 hAp hlt W
    simp only[Nat.mul_one] at hixp
    have hsm:=pT (gM hs)
    have SX:=ae hs
    have k0:=C5.out.blk.cell 0 _ rfl
    have k1:=C5.out.blk.cell 1 _ rfl
    have q1:=C5.out.look0 s (by have:=HS.out.path;unfold maxLen;omega)
    have TK:=ae (nx hs)
    clear hs hAp hsm
    rcases iO pre s with⟨p1,p2⟩ | ⟨i,y,p1,p2,p3,p4⟩
    case inl=>
     rw[p1] at q1
     simp only[Option.getD_none,Option.isSome_none] at q1
     have U6:Hid (∀ s∈(aL x.path).take (k+1),∀ y,aV pre s=some y→y.kind=2):=by
      intro t ht y hy
      rw[TK.out] at ht
      rcases List.mem_append.1 ht with ht | ht
      ·exact U5.out t ht y hy
      ·rw[List.mem_singleton.1 ht,p2] at hy;cases hy
     clear p1 p2
     go_wp2_with fail
     go_roundw
     case rel=>exact⟨k+1,by omega,by go_num,B5,C5,R5,U6⟩
     case measure=>simp[intOf];omega
    rw[p1] at q1
    simp only[Option.getD_some,Option.isSome_some] at q1
    obtain⟨b,off,hA,hel⟩:=((HE.out.below B5.out.bel).row).elem fi i y (HP.out i y p2)
    have hi:i<l.length:=(gS (HP.out i y p2)).1
    have hix:=fun W=>aI (T:=23) (E:=45) (sz:=10) (c:=cap) Tryz.underlying23 rfl Tryz.sizeOf45 hA hi W
    have e1:=hel 1 _ rfl
    have F:=ae p3
    clear p1 p2 p3 p4 hA hel
    by_cases hy:y.kind=2
    case neg=>
     have q2:(y.kind != 2)=true:=by simpa using hy
     have R:Hid (fZ pre x=9):=Nz Z.out P.out H4.out (gM SX.out) F.out hy
     clear hy
     go_wp2_with fail
     go_ret
     exact⟨ap R.out.symm,B5.out.bel⟩
    have q2:(y.kind != 2)=false:=by simp[hy]
    have U6:Hid (∀ s∈(aL x.path).take (k+1),∀ y,aV pre s=some y→y.kind=2):=by
     intro t ht z hz
     rw[TK.out] at ht
     rcases List.mem_append.1 ht with ht | ht
     ·exact U5.out t ht z hz
     ·rw[List.mem_singleton.1 ht,F.out] at hz;injection hz with hz;rw[←hz];exact hy
    clear hy
    go_wp2_with fail
    go_roundw
    case rel=>exact⟨k+1,by omega,by go_num,B5,C5,R5,U6⟩
    case measure=>simp[intOf];omega
   obtain rfl:k=(aL x.path).length:=by omega
   have U:Hid (∀ s∈aL x.path,∀ y,aV pre s=some y→y.kind=2):=by have:=U5.out;rw[List.take_length] at this;exact this
   have c0:=B5.out.blk.cell 0 _ rfl
   have c1:=B5.out.blk.cell 1 _ rfl
   have k2:=C5.out.blk.cell 2 _ rfl
   obtain⟨z,q1⟩:=C5.out.look2 x.path hps
   obtain⟨ab,hab⟩:∃ ab,kX pre x.path=ab:=⟨_,rfl⟩
   rw[hab] at q1
   have AB:=ae hab;clear hab hlt U5
   cases ab
   ·have R:Hid (fZ pre x=0):=AC Z.out P.out H4.out U.out (.inr AB.out)
    go_wp2_with fail
    go_quiet (fail)
    go_wp2_with fail
    go_ret
    exact⟨ap R.out.symm,an B5.out.bel _⟩
   ·by_cases hk2:x.kind=2
    ·have q2:(x.kind != 2)=false:=by simp[hk2]
     have R:Hid (fZ pre x=0):=AC Z.out P.out H4.out U.out (.inl hk2)
     clear hk2
     go_wp2_with fail
     go_quiet (fail)
     go_wp2_with fail
     go_ret
     exact⟨ap R.out.symm,an B5.out.bel _⟩
    ·have q2:(x.kind != 2)=true:=by simpa using hk2
     have R:Hid (fZ pre x=9):=He Z.out P.out H4.out hk2 AB.out
     clear hk2
     go_wp2_with fail
     go_quiet (fail)
     go_wp2_with fail
     go_ret
     exact⟨ap R.out.symm,an B5.out.bel _⟩
theorem Kx (s:BA):kD s=(decide (s.size≤31)&&((!iq (bl s) 0)&&((!iq (bl s) 10)&&(!iq (bl s) 58)))):=by
 have h:∀ l:LU,Lib.containsAny l [0,10,58]=(iq l 0||(iq l 10||iq l 58)):=by
  intro l
  unfold Lib.containsAny iq
  induction l with
  | nil=>rfl
  | cons b r ih=>
   have hg:=Lib.indexAny_ge [0,10,58] r
   unfold Lib.indexAny
   by_cases hb:([0,10,58]:LU).contains b=true
   ·rw[if_pos hb]
    simp at hb
    rcases hb with rfl | rfl | rfl<;>simp
   ·rw[if_neg hb]
    simp at hb
    obtain⟨h0,h1,h2⟩:=hb
    have e:decide (0≤(if (Lib.indexAny r [0,10,58] == -1)=true then (-1:Int) else Lib.indexAny r [0,10,58]+1))=decide (0≤Lib.indexAny r [0,10,58]):=by
     rw[bI,decide_eq_true_eq,decide_eq_true_eq]
     split
     ·rename_i k;have:=eq_of_beq k;omega
     ·rename_i k;have:Lib.indexAny r [0,10,58]≠-1:=fun e=>k (by rw[e];rfl);omega
    rw[e,ih]
    have c0:∀ c:UInt8,¬ b=c→(b::r).contains c=r.contains c:=fun c hc=>by
     rw[List.contains_cons,show(c==b)=false from by simpa using fun e=>hc e.symm,Bool.false_or]
    rw[c0 0 h0,c0 10 h1,c0 58 h2]
 unfold kD
 rw[h]
 cases iq (bl s) 0<;>cases iq (bl s) 10<;>cases iq (bl s) 58<;>simp
theorem AT (s:BA)(w:World)(hs:s.size≤9223372036854775807):Calls Tryz.prog 73 #[.string s] w fun e w'=>e=.returned (.bool (kD s))∧w=w':=by
 rw[Kx]
 go_enter Tryz.func73,Tryz.ntmps73
 by_cases h:s.size≤31
 case neg=>
  have q:decide (s.size≤31)=false:=dF h
  rw[q]
  have q2:¬ (s.size:Int)≤31:=by omega
  go_wp2_with fail
  go_ret
  exact⟨rfl,rfl⟩
 have q:decide (s.size≤31)=true:=dT h
 rw[q]
 have q2:(s.size:Int)≤31:=by omega
 clear h q
 have F:=fun c W=>ae (qY s c W hs)
 go_wp2_with fail
 refine(F 0 _).out.mono ?_;rintro e w1 ⟨rfl,rfl⟩
 cases h0:iq (bl s) 0
 case true=>go_wp2_with fail;go_ret;exact⟨by rw[h0];rfl,rfl⟩
 go_wp2_with fail
 refine(F 10 _).out.mono ?_;rintro e w1 ⟨rfl,rfl⟩
 cases h1:iq (bl s) 10
 case true=>go_wp2_with fail;go_ret;exact⟨by rw[h0,h1];rfl,rfl⟩
 go_wp2_with fail
 refine(F 58 _).out.mono ?_;rintro e w1 ⟨rfl,rfl⟩
 cases h2:iq (bl s) 58
 all_goals (go_wp2_with fail;go_ret;exact⟨by rw[h0,h1,h2];rfl,rfl⟩)
theorem Ky (l:LU):Lib.containsAny l [0,10]=(iq l 0||iq l 10):=by
 unfold Lib.containsAny iq
 induction l with
 | nil=>rfl
 | cons b r ih=>
  have hg:=Lib.indexAny_ge [0,10] r
  unfold Lib.indexAny
  by_cases hb:([0,10]:LU).contains b=true
  ·rw[if_pos hb]
   simp at hb
   rcases hb with rfl | rfl<;>simp
  ·rw[if_neg hb]
   simp at hb
   obtain⟨h0,h1⟩:=hb
   have e:decide (0≤(if (Lib.indexAny r [0,10] == -1)=true then (-1:Int) else Lib.indexAny r [0,10]+1))=decide (0≤Lib.indexAny r [0,10]):=by
    rw[bI,decide_eq_true_eq,decide_eq_true_eq]
    split
    ·rename_i k;have:=eq_of_beq k;omega
    ·rename_i k;have:Lib.indexAny r [0,10]≠-1:=fun e=>k (by rw[e];rfl);omega
   rw[e,ih]
   have c0:∀ c:UInt8,¬ b=c→(b::r).contains c=r.contains c:=fun c hc=>by
    rw[List.contains_cons,show(c==b)=false from by simpa using fun e=>hc e.symm,Bool.false_or]
   rw[c0 0 h0,c0 10 h1]
end
end Go.Proofs.YtaohgmcbpafdeaaGreatDoor
