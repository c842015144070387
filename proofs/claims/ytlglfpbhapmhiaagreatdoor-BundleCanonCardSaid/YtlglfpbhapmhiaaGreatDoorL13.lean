/- A part of the proof. -/
import Derived.Test.YtlglfpbhapmhiaaGreatDoorL08
import Derived.Test.YtlglfpbhapmhiaaGreatDoorL10
set_option maxRecDepth 100000
set_option maxHeartbeats 20000000
set_option linter.unusedVariables false
set_option linter.unusedSimpArgs false
namespace Go.Proofs.YtlglfpbhapmhiaaGreatDoor
variable{s:BA}{fmt:Int}{out:List BA}{from_ k:Nat}{c:UInt8}{w:World}
section
open Go.RowKit
def bY (s:BA):List BA:=(cC (bl s)).map fun p=>(⟨p.toArray⟩:BA)
theorem rM (l:List BA):(l.map bl).map (fun p=>(⟨p.toArray⟩:BA))=l:=by
 rw[List.map_map];conv=>rhs;rw[<-List.map_id l]
 apply List.map_congr_left;intro a _;apply dC;simp[bl]
theorem oo (s:BA):Lib.splitB ⟨#[47]⟩ 0 (Lib.countB s ⟨#[47]⟩) s=bY s:=by
 have h:=Lib.splitB_data ⟨#[47]⟩ 0 (Lib.countB s ⟨#[47]⟩) s;have h2:Lib.countB s ⟨#[47]⟩=(bl s).count 47:=by
  show Lib.count _ _=_;exact Lib.count_one 47 (bl s)
 have h3:(Lib.splitB ⟨#[47]⟩ 0 (Lib.countB s ⟨#[47]⟩) s).map bl=cC (bl s):=by
  refine Eq.trans h ?_;rw[h2];exact od _ (bl s) rfl
 unfold bY;rw[<-h3,rM]
theorem Iu (s:BA)(w:World)(hG:Gl w)(hs:s.size<=4294967280):Calls Tryz.prog 132 #[.string s,.string ⟨#[47]⟩] w fun e w'=>e=.returned (.slice (some ⟨w.heap.size,0,none⟩) (bY s).length (bY s).length)/\Rd w' 1 (some ⟨w.heap.size,0,none⟩) (bY s).length (ay (bY s))/\Below w.heap.size w w':=by
 obtain⟨m,hm⟩:=hG.ml;refine(Tryz.strings_Split s ⟨#[47]⟩ m w (by omega) hm (by decide)).mono fun e w' ⟨he,hw⟩=>?_;have hl:(bY s).length=Lib.countB s ⟨#[47]⟩+1:=by
  rw[<-oo];exact Lib.splitB_all ⟨#[47]⟩ (by decide) 0 _ s rfl
 rw[oo] at hw;rw[hl,hw];refine⟨he,⟨by simp[ay,hl],fun _=>⟨_,0,rfl,fun j u hu=>?_⟩⟩,bR.alloc lr _⟩;simpa [ay] using hu
theorem xN (s:BA)(w:World):Calls Tryz.prog 91 #[.string s,.string ⟨#[0]⟩] w fun e w'=>e=.returned (.bool ((bl s).contains 0))/\w=w':=
 (Tryz.strings_Contains_one s 0 w).mono fun e w' ⟨he,hw⟩=>⟨by
  rw[he];congr 2;cases h:(bl s).contains 0
  ·have:=gB s 0 h;unfold wL at this;simp only[bl] at this;simp;omega
  ·have:=gW s 0 h;unfold wL at this;simp only[bl] at this;simpa using this,hw.symm⟩
theorem qK (w:World)(s:BA):eQ (w.alloc (.cells #[.string s] 9)) (w.heap.size+1) 1 (some ⟨w.heap.size,0,none⟩) 1 [.string s]:=by
 refine⟨rfl,fun _=>⟨_,rfl,by simp,fun j u hu=>?_⟩⟩;cases j with
 | zero=>simp at hu;subst hu;simp[Addr.add]
 | succ j=>simp at hu
theorem jc (p:BA):tI (bl p)=!(p.toList.isEmpty||p.toList == [46]||p.toList == [46,46]):=by
 rw[aj];unfold tI;rw[bI];simp
theorem rN (s:BA)(k:Nat)(x:BA)(h:(bY s)[k]?=some x):(cC (bl s))[k]?=some (bl x):=by
 unfold bY at h;rw[List.getElem?_map] at h;obtain⟨p,hp,rfl⟩:=Option.map_eq_some_iff.1 h;rw[hp,jB]
theorem kH (s:BA):(bY s).length=(cC (bl s)).length:=by simp[bY]
theorem iV:∀ (l:LU),(cC l).length<=l.length+1
 | []=>by simp[cC]
 | c::r=>by
  have:=iV r;by_cases hc:c=47
  ·rw[cC,if_pos hc];simp;omega
  ·obtain⟨p,ps,h1,h2⟩:=jR hc r;rw[h1] at this;rw[h2];simp at *;omega
theorem tU {α:Type}{p:α->Bool}{l:List α}{x:α}(h:l[k]?=some x)(h0:(l.take k).all p=true)(hx:p x=true):(l.take (k+1)).all p=true:=by
 obtain⟨hk,he⟩:=gS h;rw[tS hk,List.all_append,h0,he];simp[hx]
theorem iW {α:Type}{p:α->Bool}{l:List α}{x:α}(h:l[k]?=some x)(hx:p x=false):l.all p=false:=by
 rw[List.all_eq_false];exact⟨x,gM h,by simp[hx]⟩
theorem jX (s:BA)(w:World)(hG:Gl w)(hs:s.size<=9223372036854775807):Calls Tryz.prog 88 #[.string s] w fun e w'=>e=.returned (.bool (cR (bl s)))/\Below w.heap.size w w':=by
 have HG:=ae hG;clear hG;by_cases h1:s.size<1
 ·have E:Hid (cR (bl s)=false):=by show _=_;unfold cR;rw[ah,show decide (1<=s.size)=false from dF (by omega)];rfl
  go_in;go_wp2;go_ret;exact⟨af E.out.symm,bR⟩
 by_cases h2:200<s.size
 ·have E:Hid (cR (bl s)=false):=by show _=_;unfold cR;rw[ah,show decide (s.size<=200)=false from dF (by omega)];simp
  go_in;go_wp2;go_ret;exact⟨af E.out.symm,bR⟩
 go_in;go_wp2_with fail;refine(xN _ _).mono ?_;rintro e w' ⟨rfl,rfl⟩;cases h0:(bl s).contains 0
 ·go_wp2_with fail;refine(Iu s _ HG.out (by omega)).mono ?_;rintro e w1 ⟨rfl,hr,hb⟩;have HR:=ae hr;have HB:=ae hb;clear hr hb;have hN:(bY s).length<=201:=by rw[kH];have:=iV (bl s);rw[ah] at this;omega
  have E:Hid (cR (bl s)=(cC (bl s)).all tI):=by show _=_;unfold cR;rw[h0,ah,show decide (1<=s.size)=true from dT (by omega),show decide (s.size<=200)=true from dT (by omega)];simp
  have HL:=ae (kH s);clear h0;go_wp2;go_loop [20] (fun i=>∃ k:Nat,k<=(bY s).length/\i=.int .i64 k/\Hid (((cC (bl s)).take k).all tI=true)) (fun i=>(bY s).length-(intOf i).toNat)
  case atStart=>exact⟨0,z0,rfl,by simp[Hid]⟩
  case round=>
   obtain⟨k,hk,rfl,HA⟩:=hrel;by_cases hlt:k<(bY s).length
   ·obtain⟨x,hx⟩:∃ x,(bY s)[k]?=some x:=⟨_,gG hlt⟩
    obtain⟨b,off,hA,he⟩:=HR.out.str k x hx;have hix:=fun W=>aB (T:=22) (E:=9) (sz:=1) (c:=(bY s).length) Tryz.underlying22 rfl Tryz.sizeOf9 hA hlt W;simp only[Nat.mul_one] at hix;have HX:=ae (rN s k x hx);clear hx hA;go_wp2
    ·go_ret;exact⟨af (by rw[E.out];exact(iW HX.out (by rw[jc];simp_all)).symm),HB.out⟩
    ·go_ret;exact⟨af (by rw[E.out];exact(iW HX.out (by rw[jc];simp_all)).symm),HB.out⟩
    ·go_ret;exact⟨af (by rw[E.out];exact(iW HX.out (by rw[jc];simp_all)).symm),HB.out⟩
    ·go_round
     case rel=>exact⟨k+1,by omega,by go_num,ae (tU HX.out HA.out (by rw[jc];simp_all))⟩
     case measure=>simp[intOf];omega
   ·go_wp2;go_ret;exact⟨af (by rw[E.out];have:=HA.out;rw[tL (by rw[<-HL.out];omega)] at this;exact this.symm),HB.out⟩
 ·have E:Hid (cR (bl s)=false):=by show _=_;unfold cR;rw[h0];simp
  go_wp2;go_ret;exact⟨af E.out.symm,bR⟩
def lA (l:LU)(c:UInt8):Bool:=l.contains c
theorem tp (s:BA)(c:UInt8)(w:World)(hs:s.size<=9223372036854775807):Calls Tryz.prog 158 #[.string s,.int .u8 c.toNat] w fun e w'=>e=.returned (.bool (lA (bl s) c))/\w=w':=by
 go_in;go_wp2;go_loop [5] (fun i=>∃ k:Nat,k<=s.size/\i=.int .i64 k/\Hid (((bl s).take k).contains c=false)) (fun i=>s.size-(intOf i).toNat)
 case atStart=>exact⟨0,z0,rfl,by simp[Hid]⟩
 case round=>
  obtain⟨k,hk,rfl,HA⟩:=hrel;by_cases hlt:k<s.size
  ·by_cases hc:s[k]=c
   ·have hc1:((s[k].toNat:Int)==(c.toNat:Int))=true:=by rw[hc];simp
    have HC:=ae hc;clear hc;go_wp2;go_ret;exact⟨af (AO s c k hlt HC.out).symm,rfl⟩
   ·have hc1:((s[k].toNat:Int)==(c.toNat:Int))=false:=by
     simp only[bF,ne_eq];intro h;apply hc;apply UInt8.toNat_inj.1;omega
    have HC:=ae hc;clear hc;go_wp2;go_round
    case rel=>exact⟨k+1,by omega,by go_num,ae (oI s c k hlt HA.out (by simpa using HC.out))⟩
    case measure=>simp[intOf];omega
  ·go_wp2;go_ret;exact⟨af (by have:=HA.out;rw[iE s k (by omega)] at this;exact this.symm),rfl⟩
def eR (s:BA)(k from_:Nat)(out:List BA):Prop:=
 (k<=s.size/\from_<=k/\(47:UInt8) ∉ ((bl s).drop from_).take (k-from_)/\cC (bl s)=out.map bl++cC ((bl s).drop from_))\/(k=s.size+1/\cC (bl s)=out.map bl)
theorem eR.next (h:eR s k from_ out)(hk:k<s.size)(hc:¬ s[k]=47):eR s (k+1) from_ out:=by
 rcases h with⟨h1,h2,h3,h4⟩ | ⟨h1,_⟩
 ·refine .inl ⟨by omega,by omega,?_,h4⟩;have hl:k-from_<((bl s).drop from_).length:=by rw[List.length_drop,ah];omega
  rw[show k+1-from_=(k-from_)+1 by omega,tS hl,List.mem_append,List.mem_singleton];rintro(h | h)
  ·exact h3 h
  ·apply hc;have h5:=iC s k hk;rw[List.getElem_drop] at h;simp only[show from_+(k-from_)=k by omega] at h;rw[<-h5];exact h.symm
 ·omega
theorem eR.hit (h:eR s k from_ out)(hk:k<s.size)(hc:s[k]=47):eR s (k+1) (k+1) (out++[s.extract from_ k]):=by
 rcases h with⟨h1,h2,h3,h4⟩ | ⟨h1,_⟩
 ·refine .inl ⟨by omega,lr,by simp,?_⟩;have hg:((bl s).drop from_)[k-from_]?=some 47:=by
   rw[List.getElem?_drop,show from_+(k-from_)=k by omega,dQ s k hk,hc]
  rw[h4,oK _ _ h3 hg,List.map_append,List.append_assoc];congr 1;simp only[List.map_cons,List.map_nil,List.singleton_append,iD,List.drop_drop];rw[show from_+(k-from_+1)=k+1 by omega]
 ·omega
theorem eR.last (h:eR s s.size from_ out):eR s (s.size+1) (s.size+1) (out++[s.extract from_ s.size]):=by
 rcases h with⟨h1,h2,h3,h4⟩ | ⟨h1,_⟩
 ·refine .inr ⟨rfl,?_⟩;have hn:(47:UInt8) ∉ (bl s).drop from_:=by
   rw[tL (by rw[List.length_drop,ah];omega)] at h3;exact h3
  rw[h4,mG _ hn,List.map_append];simp[cO]
 ·omega
theorem eR.le (h:eR s k from_ out)(hk:k<=s.size):from_<=k/\out.length<=s.size+1:=by
 have hp:=iV (bl s);rw[ah] at hp;rcases h with⟨h1,h2,h3,h4⟩ | ⟨h1,_⟩
 ·refine⟨h2,?_⟩;have:=congrArg List.length h4;rw[List.length_append,List.length_map] at this;omega
 ·omega
def Iv (s:BA)(w:World)(e:Ending)(w':World):Prop:=∃ A c,e=.returned (.slice A (bY s).length c)/\Rd w' 1 A (bY s).length (ay (bY s))/\Below w.heap.size w w'
theorem Iw (s:BA)(w:World)(hs:s.size<=100000):Calls Tryz.prog 196 #[.string s] w (Iv s w):=by
 obtain⟨i0,hi0,hz0,hz1,hz2⟩:=info_parts ly;go_in;go_wp2;go_loopw [3,4,5] (fun o f i wr=>∃ (k fr:Nat) (out:List BA),k<=s.size+1/\fr<=s.size+1/\i=.int .i64 k/\f=.int .i64 fr/\Hid (eR s k fr out)/\Hid (wr.ownsRow w.heap.size 9 1 o out.length (ay out))/\Hid (Below w.heap.size w wr)) (fun _ _ i _=>s.size+1-(intOf i).toNat)
 case atStart=>exact⟨0,0,[],z0,z0,rfl,rfl,ae (.inl ⟨z0,lr,by simp,by simp⟩),World.ownsRow_nil _ _ _ _,bR⟩
 case round=>
  obtain⟨k,fr,out,hk,hf,rfl,rfl,HI,HO,HB⟩:=hrel;obtain⟨Ao,co,rfl⟩:=aN HO.out;by_cases hle:k<=s.size
  ·obtain⟨hfk,hol⟩:=HI.out.le hle;have fin:∀ (k:Nat),True:=fun _=>trivial;by_cases hlt:k<s.size
   ·have hne:((k:Int)==(s.size:Int))=false:=by simp;omega
    by_cases hc:s[k]=47
    ·have hc1:((s[k].toNat:Int)==47)=true:=by rw[hc];rfl
     have HC:=ae hc;clear hc;go_wp2_with (at_builtin;refine au _ rfl _ _ _ rfl w.heap.size 9 i0 _ 1 16 Tryz.underlying22 hi0 hz0 hz1 hz2 rfl (by omega) (.slice Ao out.length co) out.length _ rfl (HO.out.alloc _) (wr.heap.size+1) (some ⟨wr.heap.size,0,none⟩) 1 1 [.string (s.extract fr k)] rfl (qK wr _) (by simp[Value.oneCell']) (by simp only[maxLen];omega) (by omega) (by simp;have:=HB.out.size;omega) ?_;intro v1 w1 o1 g1 a1);have O1:Hid (w1.ownsRow w.heap.size 9 1 v1 (out++[s.extract fr k]).length (ay (out++[s.extract fr k]))):=by show World.ownsRow _ _ _ _ _ _ _;rw[List.length_append];simpa [ay] using o1
     have B1:Hid (Below w.heap.size w w1):=(HB.out.alloc HB.out.size _).grown g1 (by simp;have:=HB.out.size;omega) (fun j hj=>(HO.out.lt j hj).1);clear o1 g1 a1;go_roundw
     case rel=>exact⟨k+1,k+1,_,by omega,by omega,by go_num,by go_num,ae (HI.out.hit hlt HC.out),O1,B1⟩
     case measure=>simp[intOf];omega
    ·have hc1:((s[k].toNat:Int)==47)=false:=by
      simp only[bF,ne_eq];intro h;apply hc;apply UInt8.toNat_inj.1;show _=47;omega
     have HC:=ae hc;clear hc;go_wp2;go_roundw
     case rel=>exact⟨k+1,fr,out,by omega,by omega,by go_num,rfl,ae (HI.out.next hlt HC.out),HO,HB⟩
     case measure=>simp[intOf];omega
   ·obtain rfl:k=s.size:=by omega
    have hne:((s.size:Int)==(s.size:Int))=true:=by simp
    go_wp2_with (at_builtin;refine au _ rfl _ _ _ rfl w.heap.size 9 i0 _ 1 16 Tryz.underlying22 hi0 hz0 hz1 hz2 rfl (by omega) (.slice Ao out.length co) out.length _ rfl (HO.out.alloc _) (wr.heap.size+1) (some ⟨wr.heap.size,0,none⟩) 1 1 [.string (s.extract fr s.size)] rfl (qK wr _) (by simp[Value.oneCell']) (by simp only[maxLen];omega) (by omega) (by simp;have:=HB.out.size;omega) ?_;intro v1 w1 o1 g1 a1);have O1:Hid (w1.ownsRow w.heap.size 9 1 v1 (out++[s.extract fr s.size]).length (ay (out++[s.extract fr s.size]))):=by show World.ownsRow _ _ _ _ _ _ _;rw[List.length_append];simpa [ay] using o1
    have B1:Hid (Below w.heap.size w w1):=(HB.out.alloc HB.out.size _).grown g1 (by simp;have:=HB.out.size;omega) (fun j hj=>(HO.out.lt j hj).1);clear o1 g1 a1;go_roundw
    case rel=>exact⟨s.size+1,s.size+1,_,by omega,by omega,by go_num,by go_num,ae HI.out.last,O1,B1⟩
    case measure=>simp[intOf]
  ·go_wp2;go_ret;have e:out=bY s:=by
    rcases HI.out with⟨h1,_⟩ | ⟨_,h2⟩
    ·omega
    ·unfold bY;rw[h2,rM]
   subst e;exact⟨Ao,co,rfl,bD HO.out,HB.out⟩
end
section
open Go.RowKit Go.Deep
theorem Ly {B:Nat}{w1 w2:World}(h1:Below B w w1)(h2:Below w1.heap.size w1 w2)(h:B<=w1.heap.size:=by exact Nat.le_trans (by assumption) (Below.size (by assumption))):Below B w w2:=h1.trans (h2.mono h)
theorem pD (s:BA)(j:Nat)(b:UInt8)(h:(bl s)[j]?=some b):s.get! j=b:=by
 unfold bl at h;show s.data[j]! = b;have h2:s.data[j]?=some b:=by simpa using h
 obtain⟨hlt,he⟩:=Array.getElem?_eq_some_iff.1 h2;rw[getElem!_pos s.data j hlt,he]
theorem ua (s:BA)(i:Nat)(h:i<s.size)(ha:¬ (s[i]'h).toNat<128):
  (128<=(Utf8.decode s i).1/\(Utf8.decode s i).1<=1114111)/\(1<=(Utf8.decode s i).2/\i+(Utf8.decode s i).2<=s.size)/\∀ (j:Nat)(b:UInt8),i<=j->j<i+(Utf8.decode s i).2->(bl s)[j]?=some b->128<=b.toNat:=by
 have e0:=pD s i _ (dQ s i h);rw[Lib.decode_at,e0];have l1:=(s.get! (i+1)).toNat_lt;have l2:=(s.get! (i+2)).toNat_lt;have l3:=(s.get! (i+3)).toNat_lt;have l0:=(s[i]'h).toNat_lt;have g1:∀ b,(bl s)[i+1]?=some b->b.toNat=(s.get! (i+1)).toNat:=fun b hb=>by rw[pD s _ b hb]
 have g2:∀ b,(bl s)[i+2]?=some b->b.toNat=(s.get! (i+2)).toNat:=fun b hb=>by rw[pD s _ b hb]
 have g3:∀ b,(bl s)[i+3]?=some b->b.toNat=(s.get! (i+3)).toNat:=fun b hb=>by rw[pD s _ b hb]
 have g0:∀ b,(bl s)[i]?=some b->b.toNat=(s[i]'h).toNat:=fun b hb=>by rw[dQ s i h] at hb;injection hb with hb;rw[hb]
 generalize (s.get! (i+1)).toNat=b1 at *;generalize (s.get! (i+2)).toNat=b2 at *;generalize (s.get! (i+3)).toNat=b3 at *;generalize (s[i]'h).toNat=b0 at *;unfold Lib.decodeN;rw[if_neg ha];have key:∀ (r w:Nat),1<=w->w<=4->(1<w->128<=b1)->(2<w->128<=b2)->(3<w->128<=b3)->∀ (j:Nat)(b:UInt8),i<=j->j<i+w->(bl s)[j]?=some b->128<=b.toNat:=by
  intro r w h1 h4 k1 k2 k3 j b hj hjw hb;obtain hj | hj | hj | hj:j=i\/j=i+1\/j=i+2\/j=i+3:=by omega
  ·subst hj;rw[g0 b hb];omega
  ·subst hj;rw[g1 b hb];exact k1 (by omega)
  ·subst hj;rw[g2 b hb];exact k2 (by omega)
  ·subst hj;rw[g3 b hb];exact k3 (by omega)
 repeat' split
 all_goals (refine⟨by simp only;omega,by simp only;omega,key 0 _ ?_ ?_ ?_ ?_ ?_⟩<;>(simp only;omega))
theorem ub (r:Int)(h0:128<=r)(h1:r<=1114111):2<=(Utf8.encode r).size/\(Utf8.encode r).size<=4/\∃ c:UInt8,(bl (Utf8.encode r))[(Utf8.encode r).size-1]?=some c/\128<=c.toNat:=by
 unfold Utf8.encode;have hc:128<=(if Utf8.valid r then r.toNat else Utf8.runeError):=by
  split
  ·omega
  ·simp[Utf8.runeError]
 generalize (if Utf8.valid r then r.toNat else Utf8.runeError)=c at hc;simp only;rw[if_neg (by omega)];have k:(UInt8.ofNat (128+c % 64)).toNat=128+c % 64:=by simp[UInt8.toNat_ofNat'];omega
 repeat' split
 all_goals exact⟨by simp[ByteArray.size],by simp[ByteArray.size],_,rfl,by rw[k];omega⟩
def iu:BA:=⟨#[60,61,62,126]⟩
theorem uc:iu.size=4:=rfl
theorem pE (j:Nat)(b:UInt8)(h:(bl iu)[j]?=some b):b.toNat<128:=by
 have hm:=gM h;simp[iu,bl] at hm;rcases hm with rfl | rfl | rfl | rfl<;>decide
theorem wR (w:World):Calls Tryz.prog 244 #[.string iu,.int .i32 65533] w fun e w'=>e=.returned (.int .i64 (-1))/\Below w.heap.size w w':=by
 go_in;go_wp2;go_loopg [5,6] 4 (fun g _ _ wx=>∃ i:Nat,i+g=4/\wx=w.iter iu i)
 case atStart=>exact⟨0,by omega,rfl⟩
 case round=>
  obtain⟨i,hig,rfl⟩:=hrel;cases gk with
  | zero=>
   obtain rfl:i=4:=by omega
   have hnx:=fun ty=>run_next_end (P:=Tryz.prog) w iu 4 ty (by rw[uc];omega);go_wp2;go_ret;exact⟨rfl,bR.alloc lr _⟩
  | succ g=>
   have hi:i<iu.size:=by rw[uc];omega
   obtain⟨x,hx⟩:∃ x:UInt8,iu[i]'hi=x:=⟨_,rfl⟩
   have hx128:x.toNat<128:=pE i x (by rw[<-hx];exact dQ iu i hi);have hnx:=fun ty=>run_next_ascii (P:=Tryz.prog) w iu i ty hi (by rw[hx];exact hx128);rw[hx] at hnx;clear hx;have hx3:((x.toNat:Int)==65533)=false:=beq_eq_false_iff_ne.2 (by omega);go_wp2;go_roundg g
   case measure=>omega
   case rel=>exact⟨i+1,by omega,rfl⟩
theorem wS (r:Int)(w:World)(h0:128<=r)(h1:r<=1114111)(hne:r≠65533)(hv:Lib.validRune r=false):Calls Tryz.prog 244 #[.string iu,.int .i32 r] w fun e w'=>e=.returned (.int .i64 (-1))/\Below w.heap.size w w':=by
 have hx3:(r==65533)=false:=beq_eq_false_iff_ne.2 hne;go_in;go_wp2_with (go_at_call 265;refine(Tryz.utf8_ValidRune _ _).mono ?_;rintro e w' ⟨rfl,hw⟩;rw[hw,hv]);go_ret;exact⟨rfl,bR⟩
theorem ud (r:Int)(w:World)(h0:128<=r)(h1:r<=1114111)(hne:r≠65533)(hv:Lib.validRune r=true):Calls Tryz.prog 244 #[.string iu,.int .i32 r] w fun e w'=>e=.returned (.int .i64 (-1))/\Below w.heap.size w w':=by
 have hx3:(r==65533)=false:=beq_eq_false_iff_ne.2 hne;obtain⟨z0,z1,c,hc,c0⟩:=ub r h0 h1;obtain⟨rs,hrs⟩:∃ rs,Utf8.encode r=rs:=⟨_,rfl⟩
 rw[hrs] at z0 z1 hc;obtain⟨m,hm⟩:∃ m,rs.size=m+1:=⟨rs.size-1,by omega⟩
 have hlt:m<rs.size:=by omega
 have hc2:rs[m]'hlt=c:=by
  rw[show rs.size-1=m by omega,dQ rs _ hlt] at hc;injection hc
 have hss:=uc;have hlt2:m<iu.size:=by omega
 obtain⟨x,hx⟩:∃ x:UInt8,iu[m]'hlt2=x:=⟨_,rfl⟩
 have hx128:x.toNat<128:=pE _ x (by rw[<-hx];exact dQ iu _ hlt2);have hxc:((x.toNat:Int) != (c.toNat:Int))=true:=by simp;omega
 have hm4:(m:Int)<(iu.size:Int):=by omega
 have hm5:(m:Int)+1<=(iu.size:Int):=by omega
 have hm6:m+1<=iu.size:=by omega
 clear hss;have hI:∀ W:World,Calls Tryz.prog 119 #[.string (iu.extract (m+1) iu.size),.int .u8 c.toNat] W fun e w'=>e=.returned (.int .i64 (-1))/\w'=W:=by
  intro W;refine(aU _ c W).mono ?_;rintro e w' ⟨rfl,rfl⟩;refine⟨aI ?_,rfl⟩;show Lib.indexByte (bl (iu.extract (m+1) iu.size)) c=-1;have hno:(bl (iu.extract (m+1) iu.size)).contains c=false:=by
   rw[cO];cases hcc:((bl iu).drop (m+1)).contains c with
   | false=>rfl
   | true=>
    have hmm:c∈(bl iu).drop (m+1):=by simpa using hcc
    obtain⟨j,hj⟩:=List.getElem?_of_mem (List.mem_of_mem_drop hmm);have:=pE j c hj;omega
  exact tY _ _ hno
 have iw:IntKind.i64.wrap ((m:Int)+1)=(m:Int)+1:=IntWalk.i64_in _ (by omega);have hsl:∀ W:World,(Instr.slice 9 (.string iu) (some (.int .i64 ((m:Int)+1))) none none).run Tryz.prog W=.ok (.string (iu.extract (m+1) iu.size)) W:=fun W=>run_slice_string_l W 9 iu Tryz.underlying9 .i64 ((m:Int)+1) (by omega) hm5;have hid1:∀ W:World,(Instr.index 9 (.string rs) (.int .i64 (m:Int))).run Tryz.prog W=.ok (.int .u8 c.toNat) W:=fun W=>by
  rw[run_index_string W 9 rs .i64 (m:Int) Tryz.underlying9,dif_pos ⟨by omega,by omega⟩];simp[hc2]
 have hid2:∀ W:World,(Instr.index 9 (.string iu) (.int .i64 (m:Int))).run Tryz.prog W=.ok (.int .u8 x.toNat) W:=fun W=>by
  rw[run_index_string W 9 iu .i64 (m:Int) Tryz.underlying9,dif_pos ⟨by omega,by omega⟩];simp[hx]
 clear hc;go_in;go_wp2_with (go_at_call 265;refine(Tryz.utf8_ValidRune _ _).mono ?_;rintro e w' ⟨rfl,hw⟩;rw[hw,hv]);go_step3;go_wp2_with fail;refine wp_loop_rounds 1 ?_;rw[rounds_succ];go_wp2_with fail;go_step3;go_wp2;go_quiet (fail);go_wp2_with fail;have HB:=fun n=>am (Below.refl w.heap.size w) n;generalize hW:w.drewN _=W2;have HW:Below w.heap.size w W2:=by rw[<-hW];exact HB _
 clear hW HB;go_quiet ((go_at_call 119;exact Calls.quiet_of_same (hI _)));go_wp2_with fail;rw[Exit.noGoto_ret];go_wp2_with fail;rw[Exit.noGoto_ret];go_ret;exact⟨rfl,am HW _⟩
theorem wT (r:Int)(w:World)(h0:128<=r)(h1:r<=1114111):Calls Tryz.prog 244 #[.string iu,.int .i32 r] w fun e w'=>e=.returned (.int .i64 (-1))/\Below w.heap.size w w':=by
 by_cases hne:r=65533
 ·subst hne;exact wR w
 ·cases hv:Lib.validRune r with
  | false=>exact wS r w h0 h1 hne hv
  | true=>exact ud r w h0 h1 hne hv
theorem ue (s:BA)(w:World)(h8:s.size<=8):Calls Tryz.prog 217 #[.string s,.string iu] w fun e w'=>e=.returned (.int .i64 (Lib.indexAny (bl s) (bl iu)))/\Below w.heap.size w w':=by
 have hemp:iu.toList.isEmpty=false:=by rw[aj];rfl
 have hemp2:¬ iu.toList=[]:=by rw[aj];intro h;exact absurd (congrArg List.length h) (by decide)
 have hn1:((iu.size:Int)==1)=false:=rfl;have h8z:decide ((8:Int)<(s.size:Int))=false:=dF (by omega);go_in;go_wp2_with (go_at_call 245;refine(Tryz.strings_shouldUseASCIISet _ _).mono ?_;rintro e w' ⟨rfl,hw⟩;rw[hw,h8z]);go_loopg [9,10] s.size (fun g _ _ wx=>∃ i:Nat,i+g=s.size/\Hid (wx.heap[w.heap.size]?=some (.stringIter s i))/\Hid (Below w.heap.size w wx)/\Hid (Lib.NoAny (bl s) (bl iu) i))
 case atStart=>exact⟨0,by omega,World.iter_heap w s 0,bR.alloc lr _,Lib.NoAny.zero _ _⟩
 case round=>
  obtain⟨i,hig,HH,HB,HN⟩:=hrel;cases gk with
  | zero=>
   obtain rfl:i=s.size:=by omega
   have hnx:=fun ty=>Lib.run_next_end_at (P:=Tryz.prog) wr w.heap.size s s.size ty HH.out (by omega);go_wp2;go_ret;exact⟨aI (by rw[Lib.indexAny_none (by rw[ah];exact HN.out)]),HB.out⟩
  | succ g=>
   have hi:i<s.size:=by omega
   have hxl:=dQ s i hi;by_cases ha:(s[i]'hi).toNat<128
   ·have hnx:=fun ty=>Lib.run_next_ascii_at (P:=Tryz.prog) wr w.heap.size s i ty HH.out hi ha;obtain⟨x,hx⟩:∃ x:UInt8,s[i]'hi=x:=⟨_,rfl⟩
    rw[hx] at hnx ha hxl;have HX:=ae hxl;clear hxl hx;have hback:((x.toNat:Int)).toNat.toUInt8=x:=by simp
    have HB2:Hid (Below w.heap.size w (wr.iterAt w.heap.size s (i+1))):=Lib.below_iterAt HB.out lr _ _;have HH2:Hid ((wr.iterAt w.heap.size s (i+1)).heap[w.heap.size]?=some (.stringIter s (i+1))):=Lib.iterAt_heap _ _ _ _ _ HH.out;cases hin:(bl iu).contains x with
    | false=>
     have hlt:=gB iu x hin;unfold wL bl at hlt;have HI:=ae hin;clear hin;go_wp2_with (go_at_call 244;refine(Tryz.strings_IndexRune_ascii _ _ _ (by omega) (by omega)).mono ?_;rintro e w' ⟨rfl,hw⟩;rw[hw,hback]);go_roundg g
     case measure=>omega
     case rel=>exact⟨i+1,by omega,HH2,HB2,HN.out.succ HX.out HI.out⟩
    | true=>
     have hge:=gW iu x hin;unfold wL bl at hge;have HI:=ae hin;clear hin;go_wp2_with (go_at_call 244;refine(Tryz.strings_IndexRune_ascii _ _ _ (by omega) (by omega)).mono ?_;rintro e w' ⟨rfl,hw⟩;rw[hw,hback]);go_ret;exact⟨aI (Lib.indexAny_hit HN.out HX.out HI.out).symm,HB2.out⟩
   ·obtain⟨⟨d1,d2⟩,⟨d3,d4⟩,d5⟩:=ua s i hi ha;have hnx:=fun ty=>Lib.run_next_any_at (P:=Tryz.prog) wr w.heap.size s i ty HH.out hi;have HD:=ae d5;clear d5 hxl;generalize Utf8.decode s i=D at *;obtain⟨r,n⟩:=D;simp only at d1 d2 d3 d4 hnx;have HB2:Hid (Below w.heap.size w (wr.iterAt w.heap.size s (i+n))):=Lib.below_iterAt HB.out lr _ _;have HH2:Hid ((wr.iterAt w.heap.size s (i+n)).heap[w.heap.size]?=some (.stringIter s (i+n))):=Lib.iterAt_heap _ _ _ _ _ HH.out;have HN2:Hid (Lib.NoAny (bl s) (bl iu) (i+n)):=by
     intro j b hj hb;by_cases hji:j<i
     ·exact HN.out j b hji hb
     ·have h1:=HD.out j b (by omega) hj hb;cases hc:(bl iu).contains b with
      | false=>rfl
      | true=>
       have hm:b∈bl iu:=by simpa using hc
       obtain⟨k,hk⟩:=List.getElem?_of_mem hm;have:=pE k b hk;omega
    clear HD;go_wp2_with fail;refine(wT (r:Int) _ (by omega) (by omega)).mono ?_;rintro e w' ⟨rfl,hb⟩;have HS:w.heap.size<(wr.iterAt w.heap.size s (i+n)).heap.size:=(Array.getElem?_eq_some_iff.1 HH2.out).1;have HB3:Hid (Below w.heap.size w w'):=Ly HB2.out hb HB2.out.size;have HH3:Hid (w'.heap[w.heap.size]?=some (.stringIter s (i+n))):=(hb.block _ HS).trans HH2.out;clear hb;go_wp2;go_roundg (g+1-n)
    case measure=>omega
    case rel=>exact⟨i+n,by omega,HH3,HB3,HN2⟩
theorem zu (s:BA)(w:World)(hs:s.size<=4294967280):Calls Tryz.prog 217 #[.string s,.string iu] w fun e w'=>e=.returned (.int .i64 (Lib.indexAny (bl s) (bl iu)))/\Below w.heap.size w w':=by
 by_cases h8:s.size<=8
 ·exact ue s w h8
 ·refine(Tryz.strings_IndexAny_long (by intro w;kernel_rfl) s iu w (by decide) (by omega) (by omega) (by decide) (fun j b h=>pE j b h)).mono ?_;rintro e w' ⟨rfl,rfl⟩;refine⟨rfl,?_⟩;have h1:Below w.heap.size w (w.alloc (.cells (Lib.setCells iu.data.toList) 274)):=bR.alloc lr _;exact h1.alloc (by simp) _
structure mM (st:BA):Prop where
 two:2<=st.size
 four:st.size<=4
 low:∀ (j:Nat)(b:UInt8),(bl st)[j]?=some b->b.toNat<128
theorem uf (st:BA)(hL:mM st)(w:World):Calls Tryz.prog 244 #[.string st,.int .i32 65533] w fun e w'=>e=.returned (.int .i64 (-1))/\Below w.heap.size w w':=by
 have HL:=ae hL;clear hL;go_in;go_wp2;go_loopg [5,6] st.size (fun g _ _ wx=>∃ i:Nat,i+g=st.size/\wx=w.iter st i)
 case atStart=>exact⟨0,by omega,rfl⟩
 case round=>
  obtain⟨i,hig,rfl⟩:=hrel;cases gk with
  | zero=>
   obtain rfl:i=st.size:=by omega
   have hnx:=fun ty=>run_next_end (P:=Tryz.prog) w st st.size ty (by omega);go_wp2;go_ret;exact⟨rfl,bR.alloc lr _⟩
  | succ g=>
   have hi:i<st.size:=by omega
   obtain⟨x,hx⟩:∃ x:UInt8,st[i]'hi=x:=⟨_,rfl⟩
   have hx128:x.toNat<128:=HL.out.low i x (by rw[<-hx];exact dQ st i hi);have hnx:=fun ty=>run_next_ascii (P:=Tryz.prog) w st i ty hi (by rw[hx];exact hx128);rw[hx] at hnx;clear hx;have hx3:((x.toNat:Int)==65533)=false:=beq_eq_false_iff_ne.2 (by omega);go_wp2;go_roundg g
   case measure=>omega
   case rel=>exact⟨i+1,by omega,rfl⟩
theorem ug (st:BA)(r:Int)(w:World)(h0:128<=r)(h1:r<=1114111)(hne:r≠65533)(hv:Lib.validRune r=false):Calls Tryz.prog 244 #[.string st,.int .i32 r] w fun e w'=>e=.returned (.int .i64 (-1))/\Below w.heap.size w w':=by
 have hx3:(r==65533)=false:=beq_eq_false_iff_ne.2 hne;go_in;go_wp2_with (go_at_call 265;refine(Tryz.utf8_ValidRune _ _).mono ?_;rintro e w' ⟨rfl,hw⟩;rw[hw,hv]);go_ret;exact⟨rfl,bR⟩
theorem sy (st:BA)(hL:mM st)(r:Int)(w:World)(h0:128<=r)(h1:r<=1114111)(hne:r≠65533)(hv:Lib.validRune r=true):Calls Tryz.prog 244 #[.string st,.int .i32 r] w fun e w'=>e=.returned (.int .i64 (-1))/\Below w.heap.size w w':=by
 have hx3:(r==65533)=false:=beq_eq_false_iff_ne.2 hne;obtain⟨z0,z1,c,hc,c0⟩:=ub r h0 h1;obtain⟨rs,hrs⟩:∃ rs,Utf8.encode r=rs:=⟨_,rfl⟩
 rw[hrs] at z0 z1 hc;obtain⟨m,hm⟩:∃ m,rs.size=m+1:=⟨rs.size-1,by omega⟩
 have hlt:m<rs.size:=by omega
 have hc2:rs[m]'hlt=c:=by
  rw[show rs.size-1=m by omega,dQ rs _ hlt] at hc;injection hc
 have hs4:=hL.four;by_cases hlt2:m<st.size
 ·obtain⟨x,hx⟩:∃ x:UInt8,st[m]'hlt2=x:=⟨_,rfl⟩
  have hx128:x.toNat<128:=hL.low _ x (by rw[<-hx];exact dQ st _ hlt2);have hxc:((x.toNat:Int) != (c.toNat:Int))=true:=by simp;omega
  have hm4:(m:Int)<(st.size:Int):=by omega
  have hm5:(m:Int)+1<=(st.size:Int):=by omega
  have hm6:m+1<=st.size:=by omega
  have hI:∀ W:World,Calls Tryz.prog 119 #[.string (st.extract (m+1) st.size),.int .u8 c.toNat] W fun e w'=>e=.returned (.int .i64 (-1))/\w'=W:=by
   intro W;refine(aU _ c W).mono ?_;rintro e w' ⟨rfl,rfl⟩;refine⟨aI ?_,rfl⟩;show Lib.indexByte (bl (st.extract (m+1) st.size)) c=-1;have hno:(bl (st.extract (m+1) st.size)).contains c=false:=by
    rw[cO];cases hcc:((bl st).drop (m+1)).contains c with
    | false=>rfl
    | true=>
     have hmm:c∈(bl st).drop (m+1):=by simpa using hcc
     obtain⟨j,hj⟩:=List.getElem?_of_mem (List.mem_of_mem_drop hmm);have:=hL.low j c hj;omega
   exact tY _ _ hno
  have iw:IntKind.i64.wrap ((m:Int)+1)=(m:Int)+1:=IntWalk.i64_in _ (by omega);have hsl:∀ W:World,(Instr.slice 9 (.string st) (some (.int .i64 ((m:Int)+1))) none none).run Tryz.prog W=.ok (.string (st.extract (m+1) st.size)) W:=fun W=>run_slice_string_l W 9 st Tryz.underlying9 .i64 ((m:Int)+1) (by omega) hm5;have hid1:∀ W:World,(Instr.index 9 (.string rs) (.int .i64 (m:Int))).run Tryz.prog W=.ok (.int .u8 c.toNat) W:=fun W=>by
   rw[run_index_string W 9 rs .i64 (m:Int) Tryz.underlying9,dif_pos ⟨by omega,by omega⟩];simp[hc2]
  have hid2:∀ W:World,(Instr.index 9 (.string st) (.int .i64 (m:Int))).run Tryz.prog W=.ok (.int .u8 x.toNat) W:=fun W=>by
   rw[run_index_string W 9 st .i64 (m:Int) Tryz.underlying9,dif_pos ⟨by omega,by omega⟩];simp[hx]
  clear hc hL;go_in;go_wp2_with (go_at_call 265;refine(Tryz.utf8_ValidRune _ _).mono ?_;rintro e w' ⟨rfl,hw⟩;rw[hw,hv]);go_step3;go_wp2_with fail;refine wp_loop_rounds 1 ?_;rw[rounds_succ];go_wp2_with fail;go_step3;go_wp2;go_quiet (fail);go_wp2_with fail;have HB:=fun n=>am (Below.refl w.heap.size w) n;generalize hW:w.drewN _=W2;have HW:Below w.heap.size w W2:=by rw[<-hW];exact HB _
  clear hW HB;go_quiet ((go_at_call 119;exact Calls.quiet_of_same (hI _)));go_wp2_with fail;rw[Exit.noGoto_ret];go_wp2_with fail;rw[Exit.noGoto_ret];go_ret;exact⟨rfl,am HW _⟩
 ·have hm4:¬ (m:Int)<(st.size:Int):=by omega
  clear hc hL;go_in;go_wp2_with (go_at_call 265;refine(Tryz.utf8_ValidRune _ _).mono ?_;rintro e w' ⟨rfl,hw⟩;rw[hw,hv]);go_step3;go_wp2_with fail;refine wp_loop_rounds 1 ?_;rw[rounds_succ];go_wp2_with fail;rw[Exit.noGoto_ret];go_ret;exact⟨rfl,bR⟩
theorem uh (st:BA)(hL:mM st)(r:Int)(w:World)(h0:128<=r)(h1:r<=1114111):Calls Tryz.prog 244 #[.string st,.int .i32 r] w fun e w'=>e=.returned (.int .i64 (-1))/\Below w.heap.size w w':=by
 by_cases hne:r=65533
 ·subst hne;exact uf st hL w
 ·cases hv:Lib.validRune r with
  | false=>exact ug st r w h0 h1 hne hv
  | true=>exact sy st hL r w h0 h1 hne hv
theorem sD (st:BA)(hL:mM st)(s:BA)(w:World)(h8:s.size<=8):Calls Tryz.prog 217 #[.string s,.string st] w fun e w'=>e=.returned (.int .i64 (Lib.indexAny (bl s) (bl st)))/\Below w.heap.size w w':=by
 have hs2:=hL.two;have hemp2:¬ st.toList=[]:=by rw[aj];intro h;have:=congrArg List.length h;rw[ah,List.length_nil] at this;omega
 have hemp:st.toList.isEmpty=false:=by cases h:st.toList with | nil=>exact absurd h hemp2 | cons a r=>rfl
 have hn1:((st.size:Int)==1)=false:=beq_eq_false_iff_ne.2 (by omega);clear hs2;have HL:=ae hL;clear hL;have h8z:decide ((8:Int)<(s.size:Int))=false:=dF (by omega);go_in;go_wp2_with (go_at_call 245;refine(Tryz.strings_shouldUseASCIISet _ _).mono ?_;rintro e w' ⟨rfl,hw⟩;rw[hw,h8z]);go_loopg [9,10] s.size (fun g _ _ wx=>∃ i:Nat,i+g=s.size/\Hid (wx.heap[w.heap.size]?=some (.stringIter s i))/\Hid (Below w.heap.size w wx)/\Hid (Lib.NoAny (bl s) (bl st) i))
 case atStart=>exact⟨0,by omega,World.iter_heap w s 0,bR.alloc lr _,Lib.NoAny.zero _ _⟩
 case round=>
  obtain⟨i,hig,HH,HB,HN⟩:=hrel;cases gk with
  | zero=>
   obtain rfl:i=s.size:=by omega
   have hnx:=fun ty=>Lib.run_next_end_at (P:=Tryz.prog) wr w.heap.size s s.size ty HH.out (by omega);go_wp2;go_ret;exact⟨aI (by rw[Lib.indexAny_none (by rw[ah];exact HN.out)]),HB.out⟩
  | succ g=>
   have hi:i<s.size:=by omega
   have hxl:=dQ s i hi;by_cases ha:(s[i]'hi).toNat<128
   ·have hnx:=fun ty=>Lib.run_next_ascii_at (P:=Tryz.prog) wr w.heap.size s i ty HH.out hi ha;obtain⟨x,hx⟩:∃ x:UInt8,s[i]'hi=x:=⟨_,rfl⟩
    rw[hx] at hnx ha hxl;have HX:=ae hxl;clear hxl hx;have hback:((x.toNat:Int)).toNat.toUInt8=x:=by simp
    have HB2:Hid (Below w.heap.size w (wr.iterAt w.heap.size s (i+1))):=Lib.below_iterAt HB.out lr _ _;have HH2:Hid ((wr.iterAt w.heap.size s (i+1)).heap[w.heap.size]?=some (.stringIter s (i+1))):=Lib.iterAt_heap _ _ _ _ _ HH.out;cases hin:(bl st).contains x with
    | false=>
     have hlt:=gB st x hin;unfold wL bl at hlt;have HI:=ae hin;clear hin;go_wp2_with (go_at_call 244;refine(Tryz.strings_IndexRune_ascii _ _ _ (by omega) (by omega)).mono ?_;rintro e w' ⟨rfl,hw⟩;rw[hw,hback]);go_roundg g
     case measure=>omega
     case rel=>exact⟨i+1,by omega,HH2,HB2,HN.out.succ HX.out HI.out⟩
    | true=>
     have hge:=gW st x hin;unfold wL bl at hge;have HI:=ae hin;clear hin;go_wp2_with (go_at_call 244;refine(Tryz.strings_IndexRune_ascii _ _ _ (by omega) (by omega)).mono ?_;rintro e w' ⟨rfl,hw⟩;rw[hw,hback]);go_ret;exact⟨aI (Lib.indexAny_hit HN.out HX.out HI.out).symm,HB2.out⟩
   ·obtain⟨⟨d1,d2⟩,⟨d3,d4⟩,d5⟩:=ua s i hi ha;have hnx:=fun ty=>Lib.run_next_any_at (P:=Tryz.prog) wr w.heap.size s i ty HH.out hi;have HD:=ae d5;clear d5 hxl;generalize Utf8.decode s i=D at *;obtain⟨r,n⟩:=D;simp only at d1 d2 d3 d4 hnx;have HB2:Hid (Below w.heap.size w (wr.iterAt w.heap.size s (i+n))):=Lib.below_iterAt HB.out lr _ _;have HH2:Hid ((wr.iterAt w.heap.size s (i+n)).heap[w.heap.size]?=some (.stringIter s (i+n))):=Lib.iterAt_heap _ _ _ _ _ HH.out;have HN2:Hid (Lib.NoAny (bl s) (bl st) (i+n)):=by
     intro j b hj hb;by_cases hji:j<i
     ·exact HN.out j b hji hb
     ·have h1:=HD.out j b (by omega) hj hb;cases hc:(bl st).contains b with
      | false=>rfl
      | true=>
       have hm:b∈bl st:=by simpa using hc
       obtain⟨k,hk⟩:=List.getElem?_of_mem hm;have:=HL.out.low k b hk;omega
    clear HD;go_wp2_with fail;refine(uh st HL.out (r:Int) _ (by omega) (by omega)).mono ?_;rintro e w' ⟨rfl,hb⟩;have HS:w.heap.size<(wr.iterAt w.heap.size s (i+n)).heap.size:=(Array.getElem?_eq_some_iff.1 HH2.out).1;have HB3:Hid (Below w.heap.size w w'):=Ly HB2.out hb HB2.out.size;have HH3:Hid (w'.heap[w.heap.size]?=some (.stringIter s (i+n))):=(hb.block _ HS).trans HH2.out;clear hb;go_wp2;go_roundg (g+1-n)
    case measure=>omega
    case rel=>exact⟨i+n,by omega,HH3,HB3,HN2⟩
theorem IA (st:BA)(hL:mM st)(s:BA)(w:World)(hs:s.size<=4294967280):Calls Tryz.prog 217 #[.string s,.string st] w fun e w'=>e=.returned (.int .i64 (Lib.indexAny (bl s) (bl st)))/\Below w.heap.size w w':=by
 by_cases h8:s.size<=8
 ·exact sD st hL s w h8
 ·refine(Tryz.strings_IndexAny_long (by intro w;kernel_rfl) s st w (by have:=hL.two;omega) (by omega) (by omega) (by have:=hL.four;omega) (fun j b h=>hL.low j b h)).mono ?_;rintro e w' ⟨rfl,rfl⟩;refine⟨rfl,?_⟩;have h1:Below w.heap.size w (w.alloc (.cells (Lib.setCells st.data.toList) 274)):=bR.alloc lr _;exact h1.alloc (by simp) _
theorem pF (st:BA)(hL:mM st)(s:BA)(w:World)(hs:s.size<=4294967280):Calls Tryz.prog 195 #[.string s,.string st] w fun e w'=>e=.returned (.bool (Lib.containsAny (bl s) (bl st)))/\Below w.heap.size w w':=by
 obtain⟨v,hv⟩:∃ v:Int,Lib.indexAny (bl s) (bl st)=v:=⟨_,rfl⟩
 have E:Hid (Lib.containsAny (bl s) (bl st)=decide (0<=v)):=by show _=_;unfold Lib.containsAny;rw[hv]
 have hI:=fun W=>IA st hL s W hs;rw[hv] at hI;have HI:=ae hI;clear hv hI;go_in;go_wp2_with fail;refine(HI.out _).mono ?_;rintro e w' ⟨rfl,hb⟩;by_cases h:0<=v
 ·go_wp2;go_ret;exact⟨af (by rw[E.out]<;>simp[h]),hb⟩
 ·go_wp2;go_ret;exact⟨af (by rw[E.out]<;>simp[h]),hb⟩
def OD (s:BA)(w:World)(e:Ending)(w':World):Prop:=∃ A c,e=.returned (.slice A (aV s).length c)/\w'.ownsRow w.heap.size 9 1 (.slice A (aV s).length c) (aV s).length (ay (aV s))/\Below w.heap.size w w'
theorem ov (s:BA)(w:World)(hs:s.size<=100000):Calls Tryz.prog 77 #[.string s] w (OD s w):=by
 obtain⟨i0,hi0,hz0,hz1,hz2⟩:=info_parts ly;go_in;go_wp2;go_loopw [3,7] (fun o i wr=>∃ (k:Nat),k<=s.size/\i=.int .i64 k/\Hid (wr.ownsRow w.heap.size 9 1 o (gR s k).length (ay (gR s k)))/\Hid (Below w.heap.size w wr)) (fun _ i _=>s.size-(intOf i).toNat)
 case atStart=>exact⟨0,z0,rfl,World.ownsRow_nil _ _ _ _,bR⟩
 case round=>
  obtain⟨k,hk,rfl,HO,HB⟩:=hrel;obtain⟨Ao,co,rfl⟩:=aN HO.out;have hol:=tK s k;by_cases hlt:k<s.size
  ·by_cases hc:s[k]=47
   ·have hc1:((s[k].toNat:Int)==47)=true:=by rw[hc];rfl
    have HC:=ae hc;clear hc;go_wp2_with (at_builtin;refine au _ rfl _ _ _ rfl w.heap.size 9 i0 _ 1 16 Tryz.underlying22 hi0 hz0 hz1 hz2 rfl (by omega) (.slice Ao (gR s k).length co) (gR s k).length _ rfl (HO.out.alloc _) (wr.heap.size+1) (some ⟨wr.heap.size,0,none⟩) 1 1 [.string (s.extract 0 k)] rfl (qK wr _) (by simp[Value.oneCell']) (by simp only[maxLen];omega) (by omega) (by simp;have:=HB.out.size;omega) ?_;intro v1 w1 o1 g1 a1);have O1:Hid (w1.ownsRow w.heap.size 9 1 v1 (gR s (k+1)).length (ay (gR s (k+1)))):=by show World.ownsRow _ _ _ _ _ _ _;rw[Lj hlt HC.out,List.length_append];simpa [ay] using o1
    have B1:Hid (Below w.heap.size w w1):=(HB.out.alloc HB.out.size _).grown g1 (by simp;have:=HB.out.size;omega) (fun j hj=>(HO.out.lt j hj).1);clear o1 g1 a1;go_roundw
    case rel=>exact⟨k+1,by omega,by go_num,O1,B1⟩
    case measure=>simp[intOf];omega
   ·have hc1:((s[k].toNat:Int)==47)=false:=by
     simp only[bF,ne_eq];intro h;apply hc;apply UInt8.toNat_inj.1;show _=47;omega
    have HC:=ae hc;clear hc;go_wp2;go_roundw
    case rel=>exact⟨k+1,by omega,by go_num,by rw[Im hlt HC.out];exact HO,HB⟩
    case measure=>simp[intOf];omega
  ·obtain rfl:k=s.size:=by omega
   go_wp2;go_ret;exact⟨Ao,co,rfl,HO.out,HB.out⟩
theorem IC:mM ⟨#[0,10,58]⟩:=⟨by decide,by decide,by intro j b h;have:=gM h;simp[bl] at this;rcases this with rfl | rfl | rfl<;>decide⟩
theorem OF:mM ⟨#[0,10]⟩:=⟨by decide,by decide,by intro j b h;have:=gM h;simp[bl] at this;rcases this with rfl | rfl<;>decide⟩
theorem rP (s:BA)(w:World)(hs:s.size<=4294967280):Calls Tryz.prog 154 #[.string s] w fun e w'=>e=.returned (.bool (lu s))/\Below w.heap.size w w':=by
 by_cases h1:s.size<=31
 ·have E:Hid (lu s=!Lib.containsAny (bl s) [0,10,58]):=by show _=_;unfold lu;rw[dT h1];rfl
  go_in;go_wp2_with fail;refine(pF _ IC s _ hs).mono ?_;rintro e w' ⟨rfl,hb⟩;go_wp2;go_ret;exact⟨af (by rw[E.out];rfl),hb⟩
 ·have E:Hid (lu s=false):=by show _=_;unfold lu;rw[dF h1];rfl
  go_in;go_wp2;go_ret;exact⟨af E.out.symm,bR⟩
theorem zv (s:BA)(w:World)(hs:s.size<=4294967280):Calls Tryz.prog 155 #[.string s] w fun e w'=>e=.returned (.bool (jT s))/\Below w.heap.size w w':=by
 by_cases h0:1<=s.size
 ·by_cases h1:s.size<=200
  ·have E:Hid (jT s=!Lib.containsAny (bl s) [0,10]):=by show _=_;unfold jT;rw[dT h0,dT h1];rfl
   go_in;go_wp2_with fail;refine(pF _ OF s _ hs).mono ?_;rintro e w' ⟨rfl,hb⟩;go_wp2;go_ret;exact⟨af (by rw[E.out];rfl),hb⟩
  ·have E:Hid (jT s=false):=by show _=_;unfold jT;rw[dF h1];simp
   go_in;go_wp2;go_ret;exact⟨af E.out.symm,bR⟩
 ·have E:Hid (jT s=false):=by show _=_;unfold jT;rw[dF h0];simp
  go_in;go_wp2;go_ret;exact⟨af E.out.symm,bR⟩
end
section
open Go.RowKit
theorem pG (h:s.size=0):s.toList=[]:=by rw[aj];exact List.eq_nil_of_length_eq_zero (by rw[ah];exact h)
theorem qM (h:¬ s.size=0):¬ s.toList=[]:=by rw[aj];intro e;have:=congrArg List.length e;rw[ah] at this;exact h this
theorem Lz {x:ag}(h1:cR (bl x.path)=true)(h2:¬ (x.kind<1\/4<x.kind))(h3:fE x=true):dE x=1:=by
 unfold dE;rw[if_neg (by rw[h1];decide),if_neg h2,if_pos h3]
def GW (x:ag):Int:=if x.kind=3/\jT x.link=false then 10 else if x.kind=4/\(cR (bl x.link)=false\/x.link=x.path) then 10
 else if x.kind≠3/\x.kind≠4/\x.link.size≠0 then 1 else if x.kind≠1/\0<x.data.length then 1 else if 1048576<x.data.length then 4 else 0
theorem Bi {x:ag}(h1:cR (bl x.path)=true)(h2:¬ (x.kind<1\/4<x.kind))(h3:fE x=false)(h4:lu x.owner=false\/lu x.group=false):dE x=10:=by
 unfold dE;rw[if_neg (by rw[h1];decide),if_neg h2,if_neg (by rw[h3];decide),if_pos h4]
theorem ID {x:ag}(h1:cR (bl x.path)=true)(h2:¬ (x.kind<1\/4<x.kind))(h3:fE x=false)(h4:lu x.owner=true)(h5:lu x.group=true):dE x=GW x:=by
 unfold dE GW;rw[if_neg (by rw[h1];decide),if_neg h2,if_neg (by rw[h3];decide),if_neg (by rw[h4,h5];decide)]
structure EB (w wr:World) (x:ag):Prop where
 blk:ax wr w.heap.size x.cells
 bel:Below w.heap.size w wr
theorem EB.step {wr w':World}{x:ag}(h:EB w wr x)(hb:Below wr.heap.size wr w'):EB w w' x:=⟨h.blk.below hb,aq h.bel hb⟩
theorem EB.start (w:World)(x:ag):EB w (w.alloc (.cells #[.string x.path,.int .i64 x.kind,.int .i64 x.mode,.int .i64 x.uid,.int .i64 x.gid,.string x.owner,.string x.group,.int .i64 x.mtime,.string x.link,.slice x.da x.data.length x.dc] 35)) x:=
 ⟨ax.new w x.cells _,bR.alloc lr _⟩
theorem Bj (x:ag)(w:World)(hG:Gl w)(hs:x.small):Calls Tryz.prog 114 #[x.val] w fun e w'=>e=.returned (.int .i64 (dE x))/\Below w.heap.size w w':=by
 have HG:=ae hG;have HS:=ae hs;clear hG hs;obtain⟨W0,hW0⟩:∃ W0,w.alloc (.cells #[.string x.path,.int .i64 x.kind,.int .i64 x.mode,.int .i64 x.uid,.int .i64 x.gid,.string x.owner,.string x.group,.int .i64 x.mtime,.string x.link,.slice x.da x.data.length x.dc] 35)=W0:=⟨_,rfl⟩
 have B0:Hid (EB w W0 x):=by show EB _ _ _;rw[<-hW0];exact EB.start w x
 have c0:=B0.out.blk.cell 0 _ rfl;unfold ag.val;go_in;go_wp2_with fail;clear hW0 c0;refine(jX x.path _ (HG.out.below B0.out.bel) (by have:=HS.out.path;omega)).mono ?_;rintro e w1 ⟨rfl,hb1⟩;have B1:=ae (B0.out.step hb1);clear hb1 B0;cases h1:cR (bl x.path)
 ·have E:Hid (dE x=10):=by show _=_;unfold dE;rw[if_pos h1]
  clear h1;go_wp2;go_ret;exact⟨aI E.out.symm,B1.out.bel⟩
 have H1:=ae h1;clear h1;have c1:=B1.out.blk.cell 1 _ rfl;by_cases h2:x.kind<1\/4<x.kind
 ·have E:Hid (dE x=9):=by show _=_;unfold dE;rw[if_neg (by rw[H1.out];decide),if_pos h2]
  by_cases h3:x.kind<1
  ·clear h2;go_wp2;go_ret;exact⟨aI E.out.symm,B1.out.bel⟩
  ·have h4:4<x.kind:=by omega
   clear h2;go_wp2;go_ret;exact⟨aI E.out.symm,B1.out.bel⟩
 have H2:=ae h2;have k1:¬ x.kind<1:=fun h=>h2 (.inl h);have k2:¬ 4<x.kind:=fun h=>h2 (.inr h);clear h2;have c2:=B1.out.blk.cell 2 _ rfl;have c3:=B1.out.blk.cell 3 _ rfl;have c4:=B1.out.blk.cell 4 _ rfl;have c5:=B1.out.blk.cell 5 _ rfl;have c7:=B1.out.blk.cell 7 _ rfl;cases h3:fE x
 ·have H3:=ae h3;unfold fE at h3;simp only[Bool.or_eq_false_iff,decide_eq_false_iff_not] at h3;obtain⟨⟨⟨⟨⟨⟨⟨n1,n2⟩,n3⟩,n4⟩,n5⟩,n6⟩,n7⟩,n8⟩:=h3;go_wp2_with fail;refine(rP x.owner _ (by have:=HS.out.owner;omega)).mono ?_;rintro e w2 ⟨rfl,hb2⟩;have B2:=ae (B1.out.step hb2);clear hb2 B1 c1 c2 c3 c4 c5 c7 n1 n2 n3 n4 n5 n6 n7 n8;cases h4:lu x.owner
  ·have E:Hid (dE x=10):=Bi H1.out H2.out H3.out (.inl h4);clear h4;go_wp2;go_ret;exact⟨aI E.out.symm,B2.out.bel⟩
  have H4:=ae h4;clear h4;have c6:=B2.out.blk.cell 6 _ rfl;go_wp2_with fail;refine(rP x.group _ (by have:=HS.out.group;omega)).mono ?_;rintro e w3 ⟨rfl,hb3⟩;have B3:=ae (B2.out.step hb3);clear hb3 B2 c6;cases h5:lu x.group
  ·have E:Hid (dE x=10):=Bi H1.out H2.out H3.out (.inr h5);clear h5;go_wp2;go_ret;exact⟨aI E.out.symm,B3.out.bel⟩
  have HE:Hid (dE x=GW x):=ID H1.out H2.out H3.out H4.out h5;clear h5 H1 H2 H3 H4;have c0:=B3.out.blk.cell 0 _ rfl;have c1:=B3.out.blk.cell 1 _ rfl;have c8:=B3.out.blk.cell 8 _ rfl;have c9:=B3.out.blk.cell 9 _ rfl;unfold GW at HE;have HK:=HS.out.link;have HD:=HS.out.data;have hdm:¬ 1048576<x.data.length:=by omega
  have hdm2:¬ (1048576:Int)<(x.data.length:Int):=by omega
  have B4:Hid (Below w.heap.size w w3):=B3.out.bel;rcases(by omega:x.kind=1\/x.kind=2\/x.kind=3\/x.kind=4) with hk | hk | hk | hk
  all_goals
   rw[hk] at c1 k1 k2;have K:=ae hk;clear hk
  ·skip
   by_cases hl:x.link.size=0
   ·have l1:=pG hl;have HL:=ae hl;clear hl;have R:Hid (dE x=0):=by show _=_;rw[HE.out];simp[K.out,HL.out,hdm]
    clear HE;go_wp2;go_ret;exact⟨aI (by rw[R.out]),B4.out⟩
   ·have l1:=qM hl;have l2:x.link.toList.isEmpty=false:=by cases h:x.link.toList with | nil=>exact absurd h l1 | cons a r=>rfl
    have HL:=ae hl;clear hl;have R:Hid (dE x=1):=by show _=_;rw[HE.out];simp[K.out,HL.out]
    clear HE;go_wp2;go_ret;exact⟨aI (by rw[R.out]),B4.out⟩
  ·skip
   by_cases hl:x.link.size=0
   ·have l1:=pG hl;have HL:=ae hl;clear hl;by_cases hd0:0<x.data.length
    ·have d1:(0:Int)<(x.data.length:Int):=by omega
     have R:Hid (dE x=1):=by show _=_;rw[HE.out];simp[K.out,HL.out,hd0,hdm]
     clear HE;go_wp2;go_ret;exact⟨aI (by rw[R.out]),B4.out⟩
    ·have d1:¬ (0:Int)<(x.data.length:Int):=by omega
     have R:Hid (dE x=0):=by show _=_;rw[HE.out];simp[K.out,HL.out,hd0,hdm]
     clear HE;go_wp2;go_ret;exact⟨aI (by rw[R.out]),B4.out⟩
   ·have l1:=qM hl;have l2:x.link.toList.isEmpty=false:=by cases h:x.link.toList with | nil=>exact absurd h l1 | cons a r=>rfl
    have HL:=ae hl;clear hl;have R:Hid (dE x=1):=by show _=_;rw[HE.out];simp[K.out,HL.out]
    clear HE;go_wp2;go_ret;exact⟨aI (by rw[R.out]),B4.out⟩
  ·go_wp2_with fail;refine(zv x.link _ (by omega)).mono ?_;rintro e w4 ⟨rfl,hb4⟩;have B5:Hid (Below w.heap.size w w4):=aq B4.out hb4;have c9:w4.cell? ⟨w.heap.size,9,none⟩=some (.slice x.da x.data.length x.dc):=(B3.out.blk.below hb4).cell 9 _ rfl;have c1:w4.cell? ⟨w.heap.size,1,none⟩=some (.int .i64 3):=by have h:=(B3.out.blk.below hb4).cell 1 _ rfl;rw[K.out] at h;exact h
   clear hb4;cases ht:jT x.link
   ·skip
    have R:Hid (dE x=10):=by show _=_;rw[HE.out];simp[K.out,ht]
    clear HE;go_wp2;go_ret;exact⟨aI (by rw[R.out]),B5.out⟩
   ·have HT:=ae ht;clear ht;by_cases hd0:0<x.data.length
    ·have d1:(0:Int)<(x.data.length:Int):=by omega
     have R:Hid (dE x=1):=by show _=_;rw[HE.out];simp[K.out,HT.out,hd0,hdm]
     clear HE;go_wp2;go_ret;exact⟨aI (by rw[R.out]),B5.out⟩
    ·have d1:¬ (0:Int)<(x.data.length:Int):=by omega
     have R:Hid (dE x=0):=by show _=_;rw[HE.out];simp[K.out,HT.out,hd0,hdm]
     clear HE;go_wp2;go_ret;exact⟨aI (by rw[R.out]),B5.out⟩
  ·go_wp2_with fail;refine(jX x.link _ (HG.out.below B4.out) (by omega)).mono ?_;rintro e w4 ⟨rfl,hb4⟩;have B5:Hid (Below w.heap.size w w4):=aq B4.out hb4;have c0:w4.cell? ⟨w.heap.size,0,none⟩=some (.string x.path):=(B3.out.blk.below hb4).cell 0 _ rfl;have c8:w4.cell? ⟨w.heap.size,8,none⟩=some (.string x.link):=(B3.out.blk.below hb4).cell 8 _ rfl;have c9:w4.cell? ⟨w.heap.size,9,none⟩=some (.slice x.da x.data.length x.dc):=(B3.out.blk.below hb4).cell 9 _ rfl;have c1:w4.cell? ⟨w.heap.size,1,none⟩=some (.int .i64 4):=by have h:=(B3.out.blk.below hb4).cell 1 _ rfl;rw[K.out] at h;exact h
   clear hb4;cases ht:cR (bl x.link)
   ·skip
    have R:Hid (dE x=10):=by show _=_;rw[HE.out];simp[K.out,ht]
    clear HE;go_wp2;go_ret;exact⟨aI (by rw[R.out]),B5.out⟩
   ·have HT:=ae ht;clear ht;by_cases hlp:x.link=x.path
    ·have e1:(x.link.toList==x.path.toList)=true:=by rw[hlp];simp
     have HLP:=ae hlp;clear hlp;have R:Hid (dE x=10):=by show _=_;rw[HE.out];simp[K.out,HT.out,HLP.out]
     clear HE;go_wp2;go_ret;exact⟨aI (by rw[R.out]),B5.out⟩
    ·have e1:(x.link.toList==x.path.toList)=false:=by rw[et];exact dF hlp
     have HLP:=ae hlp;clear hlp;by_cases hd0:0<x.data.length
     ·have d1:(0:Int)<(x.data.length:Int):=by omega
      have R:Hid (dE x=1):=by show _=_;rw[HE.out];simp[K.out,HT.out,HLP.out,hd0,hdm]
      clear HE;go_wp2;go_ret;exact⟨aI (by rw[R.out]),B5.out⟩
     ·have d1:¬ (0:Int)<(x.data.length:Int):=by omega
      have R:Hid (dE x=0):=by show _=_;rw[HE.out];simp[K.out,HT.out,HLP.out,hd0,hdm]
      clear HE;go_wp2;go_ret;exact⟨aI (by rw[R.out]),B5.out⟩
 ·have E:Hid (dE x=1):=Lz H1.out H2.out h3;unfold fE at h3;simp only[Bool.or_eq_true,decide_eq_true_iff] at h3;have N:=ae h3;clear h3;go_wp2_with fail
  all_goals first | (go_ret;exact⟨aI E.out.symm,B1.out.bel⟩) | (exfalso;have:=N.out;omega)
end
section
open Go.RowKit Go.Maps
structure ag.fits (x:ag):Prop where
 path:x.path.size<=9223372036854775807
 owner:x.owner.size<=9223372036854775807
 group:x.group.size<=9223372036854775807
 link:x.link.size<=9223372036854775807
 data:x.data.length<=9223372036854775807
structure ag.lite (x:ag):Prop where
 path:x.path.size<=5000
 owner:x.owner.size<=5000
 group:x.group.size<=5000
 link:x.link.size<=5000
 data:x.data.length<=5000
def Sd (a:Int):Int:=if 5001<a then 5001 else a
theorem QI (ats:Array TypeId)(ty:TypeId)(a:Int)(w:World):(Builtin.min_ ats ty #[.int .i64 a,.int .i64 5001]).run Tryz.prog w=.ok (.int .i64 (Sd a)) w:=rfl
theorem uk (n:Nat):0<=Sd n/\Sd n<=5001/\(Sd n<=5000->n<=5000):=by unfold Sd;split<;>omega
theorem ul {α:Type}{l:List α}{x:α}(h:l[k]?=some x):l.take (k+1)=l.take k++[x]:=by
 obtain⟨hk,hx⟩:=gS h;rw[tS hk,hx]
def QJ (l:List ag)(w:World)(e:Ending)(w':World):Prop:=(∃ b:Bool,e=.returned (.bool b)/\(b=true->l.length<=30/\∀ x∈l,x.lite))/\Below w.heap.size w w'
theorem IE (A:OA)(c:Nat)(l:List ag)(w:World)(hE:cV w A l)(hn:l.length<=9223372036854775807)(hf:∀ x∈l,x.fits):Calls Tryz.prog 18 #[.slice A l.length c,.int .i64 30,.int .i64 5000] w (QJ l w):=by
 have HE:=ae hE;have HF:=ae hf;clear hE hf;have hm:=fun ats ty a w=>QI ats ty a w;go_in;by_cases hl:l.length<=30
 case neg=>
  have q:(30:Int)<(l.length:Int):=by omega
  go_wp2;go_ret;exact⟨⟨false,rfl,fun h=>by cases h⟩,bR⟩
 go_wp2;go_loopw [7,8] (fun s i wr=>∃ (k:Nat) (n:Int),k<=l.length/\s=.int .i64 n/\i=.int .i64 k/\0<=n/\n<=30005/\Hid (n<=5000->∀ x∈l.take k,x.lite)/\Hid (Below w.heap.size w wr)) (fun _ i _=>l.length-(intOf i).toNat)
 case atStart=>exact⟨0,0,z0,rfl,rfl,by omega,by omega,(fun _ x hx=>by simp at hx),bR⟩
 case round=>
  obtain⟨k,n,hk,rfl,rfl,hn0,hn1,U,B⟩:=hrel;by_cases hlt:k<l.length
  ·by_cases hle:n<=5000
   ·obtain⟨x,hx⟩:∃ x,l[k]?=some x:=⟨_,gG hlt⟩
    obtain⟨b,off,hA,hel⟩:=((HE.out.below B.out).row).elem bi k x hx;have hix:=fun W=>aB (T:=28) (E:=35) (sz:=10) (c:=c) Tryz.underlying28 rfl Tryz.sizeOf35 hA hlt W;have e0:=hel 0 _ rfl;have e5:=hel 5 _ rfl;have e6:=hel 6 _ rfl;have e8:=hel 8 _ rfl;have e9:=hel 9 _ rfl;simp only[Nat.add_zero] at e0;have fx:=HF.out x (gM hx);have f0:=fx.path;have f5:=fx.owner;have f6:=fx.group;have f8:=fx.link;have f9:=fx.data;obtain⟨a0,a1,A2⟩:=uk x.path.size;obtain⟨b0,b1,B2⟩:=uk x.link.size;obtain⟨c0,c1,C2⟩:=uk x.owner.size;obtain⟨d0,d1,D2⟩:=uk x.group.size;obtain⟨g0,g1,G2⟩:=uk x.data.length;have HX:=ae hx;clear hx hA hel fx;have A3:=ae A2;have B3:=ae B2;have C3:=ae C2;have D3:=ae D2;have G3:=ae G2;clear A2 B2 C2 D2 G2;go_wp2;go_quiet (fail);go_wp2;go_roundw
    case rel=>
     refine⟨k+1,_,by omega,rfl,by go_num,by omega,by omega,fun h y hy=>?_,am B.out _⟩;rw[ul HX.out] at hy;rcases List.mem_append.1 hy with hy | hy
     ·exact U.out (by omega) y hy
     ·rw[List.mem_singleton.1 hy];exact⟨A3.out (by omega),C3.out (by omega),D3.out (by omega),B3.out (by omega),G3.out (by omega)⟩
    case measure=>simp[intOf];omega
   ·have q:(5000:Int)<n:=by omega
    go_wp2;go_ret;exact⟨⟨false,rfl,fun h=>by cases h⟩,B.out⟩
  ·have hkl:k=l.length:=by omega
   subst hkl;obtain⟨bb,hbb⟩:∃ bb,decide (n<=5000)=bb:=⟨_,rfl⟩
   have U2:Hid (bb=true->∀ x∈l,x.lite):=fun h=>by have:=U.out (dO (hbb.trans h));rwa [List.take_length] at this
   have HL:=ae hl;have HB:=ae hbb;go_wp2;go_ret;exact⟨⟨_,rfl,fun h=>⟨HL.out,U2.out h⟩⟩,B.out⟩
end
section
open Go.RowKit
def oR (s:BA):BA:=⟨((gA (bl s)).getD []).toArray⟩
def Bn (s:BA):Bool:=(gA (bl s)).isSome
def IJ (s:BA):Value:=.tuple #[.string (oR s),.bool (Bn s)]
theorem xQ (h:gA (bl s)=none):IJ s=.tuple #[.string ⟨#[]⟩,.bool false]:=by simp[IJ,oR,Bn,h]
theorem IK {i:Nat}(h:gA (bl s)=some ((bl s).take i)):IJ s=.tuple #[.string (s.extract 0 i),.bool true]:=by
 simp only[IJ,oR,Bn,h,Option.getD_some,Option.isSome_some];congr 3;apply congrArg;apply dC;rw[jB,ek]
theorem zC (s:BA)(w:World)(hG:Gl w)(hs:s.size<=4294967280):Calls Tryz.prog 87 #[.string s] w fun e w'=>e=.returned (IJ s)/\Below w.heap.size w w':=by
 have HG:=ae hG;clear hG;cases hl:dD 47 (bl s) with
 | none=>
  have E:Hid (gA (bl s)=none):=by show _=_;unfold gA;rw[hl];simp
  have HL:=ae hl;clear hl;go_in;go_wp2_with fail;refine(dG s 47 _ (by omega) HL).mono ?_;rintro e w' ⟨rfl,rfl⟩;go_wp2;go_ret2;exact⟨by rw[xQ E.out];rfl,bR⟩
 | some i=>
  have hi:i<s.size:=by have:=pp _ _ _ hl;rw[ah] at this;exact this
  cases hp:cR (bl s)
  ·have E:Hid (gA (bl s)=none):=by show _=_;unfold gA;rw[hp];rfl
   have HL:=ae hl;have HP:=ae hp;clear hl hp;go_in;go_wp2_with fail;refine(bW s 47 i _ (by omega) HL).mono ?_;rintro e w' ⟨rfl,rfl⟩;go_wp2_with fail;refine(jX s _ HG.out (by omega)).mono ?_;rintro e w1 ⟨rfl,hb⟩;rw[HP.out];have HB:=ae hb;clear hb;go_wp2;go_ret2;exact⟨by rw[xQ E.out];rfl,HB.out⟩
  ·have E:Hid (gA (bl s)=some ((bl s).take i)):=by show _=_;unfold gA;rw[hp,hl];rfl
   have HL:=ae hl;have HP:=ae hp;clear hl hp;go_in;go_wp2_with fail;refine(bW s 47 i _ (by omega) HL).mono ?_;rintro e w' ⟨rfl,rfl⟩;go_wp2_with fail;refine(jX s _ HG.out (by omega)).mono ?_;rintro e w1 ⟨rfl,hb⟩;rw[HP.out];have HB:=ae hb;clear hb;go_wp2;go_ret2;exact⟨by rw[IK E.out];rfl,HB.out⟩
theorem Bo (s:BA)(w:World)(hs:s.size<=9223372036854775807):Calls Tryz.prog 156 #[.string s] w fun e w'=>e=.returned (.bool (cR (bl s)))/\Below w.heap.size w w':=by
 by_cases h1:s.size<1
 ·have E:Hid (cR (bl s)=false):=by show _=_;unfold cR;rw[ah,show decide (1<=s.size)=false from dF (by omega)];rfl
  go_in;go_wp2;go_ret;exact⟨af E.out.symm,bR⟩
 by_cases h2:200<s.size
 ·have E:Hid (cR (bl s)=false):=by show _=_;unfold cR;rw[ah,show decide (s.size<=200)=false from dF (by omega)];simp
  go_in;go_wp2;go_ret;exact⟨af E.out.symm,bR⟩
 go_in;go_wp2_with fail;refine(tp s 0 _ hs).mono ?_;rintro e w' ⟨rfl,rfl⟩;unfold lA;cases h0:(bl s).contains 0
 ·go_wp2_with fail;refine(Iw s _ (by omega)).mono ?_;rintro e w1 ⟨Ap,cp,rfl,hr,hb⟩;have HR:=ae hr;have HB:=ae hb;clear hr hb;have hN:(bY s).length<=201:=by rw[kH];have:=iV (bl s);rw[ah] at this;omega
  have E:Hid (cR (bl s)=(cC (bl s)).all tI):=by show _=_;unfold cR;rw[h0,ah,show decide (1<=s.size)=true from dT (by omega),show decide (s.size<=200)=true from dT (by omega)];simp
  have HL:=ae (kH s);clear h0;go_wp2;go_loop [4] (fun i=>∃ k:Nat,k<=(bY s).length/\i=.int .i64 k/\Hid (((cC (bl s)).take k).all tI=true)) (fun i=>(bY s).length-(intOf i).toNat)
  case atStart=>exact⟨0,z0,rfl,by simp[Hid]⟩
  case round=>
   obtain⟨k,hk,rfl,HA⟩:=hrel;by_cases hlt:k<(bY s).length
   ·obtain⟨x,hx⟩:∃ x,(bY s)[k]?=some x:=⟨_,gG hlt⟩
    obtain⟨b,off,hA,he⟩:=HR.out.str k x hx;have hix:=fun W=>aB (T:=22) (E:=9) (sz:=1) (c:=cp) Tryz.underlying22 rfl Tryz.sizeOf9 hA hlt W;simp only[Nat.mul_one] at hix;have HX:=ae (rN s k x hx);clear hx hA;go_wp2
    ·go_ret;exact⟨af (by rw[E.out];exact(iW HX.out (by rw[jc];simp_all)).symm),HB.out⟩
    ·go_ret;exact⟨af (by rw[E.out];exact(iW HX.out (by rw[jc];simp_all)).symm),HB.out⟩
    ·go_ret;exact⟨af (by rw[E.out];exact(iW HX.out (by rw[jc];simp_all)).symm),HB.out⟩
    ·go_round
     case rel=>exact⟨k+1,by omega,by go_num,ae (tU HX.out HA.out (by rw[jc];simp_all))⟩
     case measure=>simp[intOf];omega
   ·go_wp2;go_ret;exact⟨af (by rw[E.out];have:=HA.out;rw[tL (by rw[<-HL.out];omega)] at this;exact this.symm),HB.out⟩
 ·have E:Hid (cR (bl s)=false):=by show _=_;unfold cR;rw[h0];simp
  go_wp2;go_ret;exact⟨af E.out.symm,bR⟩
theorem QM :∀ (l:LU)(k:Nat),(l.take k).contains c=false->l[k]?=some c->Lib.cut l [c]=(l.take k,l.drop (k+1),true):=by
 intro l k h0 h1;have hk:k<l.length:=(gS h1).1;have hi:Lib.indexByte l c=k:=by
  have key:∀ (l:LU)(k:Nat),(l.take k).contains c=false->l[k]?=some c->Lib.indexByte l c=k:=by
   intro l
   induction l with
   | nil=>intro k _ h;simp at h
   | cons b r ih=>
    intro k h0 h1;cases k with
    | zero=>simp at h1;subst h1;simp[Lib.indexByte]
    | succ k=>
     simp at h1;rw[List.take_succ_cons,List.contains_cons,Bool.or_eq_false_iff] at h0;have hb:(b==c)=false:=by have:=h0.1;simp at this |-;exact fun e=>this e.symm
     have hr:=ih k h0.2 h1;simp only[Lib.indexByte,hb,hr];rw[if_neg (by simp),if_neg (by simp;try omega)];omega
  exact key l k h0 h1
 unfold Lib.cut;rw[Lib.index_one,hi];simp
theorem LM (l:LU)(h:l.contains c=false):Lib.cut l [c]=(l,[],false):=by
 have hi:Lib.indexByte l c=-1:=by
  have h1:=tY ⟨l.toArray⟩ c (by simpa [bl] using h);simpa [wL,bl] using h1
 unfold Lib.cut;rw[Lib.index_one,hi];simp
def Ok (fmt n:Int):Bool:=decide ((1<=n/\n<=4)\/(fmt=1/\n=7)\/(fmt=3/\(n=5\/n=6)))
def Ol (fmt:Int)(x:aT):Bool:=Ok fmt x.phase&&decide (1<=x.body.size/\x.body.size<=4096) && !(bl x.body).contains 0
def sZ:List aT->Bool
 | x::y::r=>decide (x.phase<y.phase)&&sZ (y::r)
 | _=>true
def fK (fmt:Int)(l:List aT):Int:=if 7<l.length then 4 else if sZ l=false then 15 else if l.all (Ol fmt)=true then 0 else 1
theorem yF:∀ (l:List aT),(∀ (i:Nat) x y,l[i]?=some x->l[i+1]?=some y->x.phase<y.phase)->sZ l=true
 | [],_=>rfl
 | [x],_=>rfl
 | x::y::r,h=>by
  rw[sZ,dT (h 0 x y rfl rfl),yF (y::r) (fun i a b ha hb=>h (i+1) a b (by simpa using ha) (by simpa using hb))];rfl
theorem vD:∀ (l:List aT)(i:Nat)(x y:aT),l[i]?=some x->l[i+1]?=some y->¬ x.phase<y.phase->sZ l=false
 | [],i,x,y,h,_,_=>by simp at h
 | [z],i,x,y,h,h',_=>by
  have:=(gS h').1;simp at this
 | a::b::r,0,x,y,h,h',hn=>by
  simp at h h';subst h h';rw[sZ,dF hn];rfl
 | a::b::r,i+1,x,y,h,h',hn=>by
  rw[sZ,vD (b::r) i x y (by simpa using h) (by simpa using h') hn,Bool.and_false]
theorem rk (fmt n:Int)(hfmt:fmt=1\/fmt=2\/fmt=3)(w:World):Calls Tryz.prog 90 #[.int .i64 fmt,.int .i64 n] w fun e w'=>e=.returned (.bool (Ok fmt n))/\w=w':=by
 by_cases h1:1<=n
 ·by_cases h4:n<=4
  ·have E:Hid (Ok fmt n=true):=dT (.inl ⟨h1,h4⟩);have t4:decide (n<=4)=true:=dT h4;have t6:decide (n<=6)=true:=dT (by omega);have t1:decide (1<=n)=true:=dT h1;rcases hfmt with rfl | rfl | rfl
   all_goals
    go_in;go_wp2;go_ret;exact⟨af (by rw[E.out]),rfl⟩
  ·have t4:decide (n<=4)=false:=dF h4;have t1:decide (1<=n)=true:=dT h1;rcases hfmt with rfl | rfl | rfl
   ·by_cases h7:n=7
    ·have E:Hid (Ok 1 n=true):=dT (by omega);have t7:(n==7)=true:=by simpa using h7
     clear h7;go_in;go_wp2;go_ret;exact⟨af (by rw[E.out]),rfl⟩
    ·have E:Hid (Ok 1 n=false):=dF (by omega);have t7:(n==7)=false:=by simpa using h7
     clear h7;go_in;go_wp2;go_ret;exact⟨af (by rw[E.out]),rfl⟩
   ·have E:Hid (Ok 2 n=false):=dF (by omega);go_in;go_wp2;go_ret;exact⟨af (by rw[E.out]),rfl⟩
   ·by_cases h6:n<=6
    ·have E:Hid (Ok 3 n=true):=dT (by omega);have t6:decide (n<=6)=true:=dT h6;go_in;go_wp2;go_ret;exact⟨af (by rw[E.out]),rfl⟩
    ·have E:Hid (Ok 3 n=false):=dF (by omega);have t6:decide (n<=6)=false:=dF h6;go_in;go_wp2;go_ret;exact⟨af (by rw[E.out]),rfl⟩
 ·have E:Hid (Ok fmt n=false):=dF (by omega);have t1:decide (1<=n)=false:=dF h1;have t7:(n==7)=false:=by simp;omega
  rcases hfmt with rfl | rfl | rfl
  all_goals
   go_in;go_wp2;go_ret;exact⟨af (by rw[E.out]),rfl⟩
def FM (l:List aT)(k:Nat):Prop:=∀ (i:Nat) x y,i+1<k->l[i]?=some x->l[i+1]?=some y->x.phase<y.phase
theorem FM.all {l:List aT}(h:FM l k)(hk:l.length<=k):sZ l=true:=
 yF l fun i x y hx hy=>h i x y (Nat.lt_of_lt_of_le (gS hy).1 hk) hx hy
theorem FM.next {l:List aT}{x y:aT}(h:FM l k)(hx:l[k-1]?=some x)(hy:l[k]?=some y)(hlt:x.phase<y.phase):FM l (k+1):=by
 intro i a b hi ha hb;by_cases e:i+1=k
 ·subst e;rw[Nat.add_sub_cancel] at hx;rw[hx] at ha;rw[hy] at hb;injection ha with ha;injection hb with hb;subst ha hb;exact hlt
 ·exact h i a b (by omega) ha hb
theorem FM.one {l:List aT}:FM l 1:=fun i x y hi=>by omega
theorem FM.zero {l:List aT}:FM l 0:=fun i x y hi=>by omega
theorem vE {l:List aT}(h7:¬ 7<l.length)(h:sZ l=false):fK fmt l=15:=by unfold fK;rw[if_neg h7,if_pos h]
theorem jJ {l:List aT}(h7:¬ 7<l.length)(h:sZ l=true)(ha:l.all (Ol fmt)=false):fK fmt l=1:=by unfold fK;rw[if_neg h7,h,ha];rfl
theorem CD {l:List aT}(h7:¬ 7<l.length)(h:sZ l=true)(ha:l.all (Ol fmt)=true):fK fmt l=0:=by unfold fK;rw[if_neg h7,h,ha];rfl
theorem pd (fmt:Int)(hfmt:fmt=1\/fmt=2\/fmt=3)(A:OA)(c:Nat)(l:List aT)(w:World)(hr:Rd w 2 A l.length (l.flatMap aT.cells))(hn:l.length<=9223372036854775807)(hf:∀ x∈l,x.body.size<=4294967280):Calls Tryz.prog 50 #[.int .i64 fmt,.slice A l.length c] w fun e w'=>e=.returned (.int .i64 (fK fmt l))/\Below w.heap.size w w':=by
 have HR:=ae hr;have HF:=ae hf;clear hr hf;by_cases h7:7<l.length
 ·have E:Hid (fK fmt l=4):=by show _=_;unfold fK;rw[if_pos h7]
  go_in;go_wp2;go_ret;exact⟨aI (by rw[E.out]),bR⟩
 go_in;go_wp2;go_loopw [14] (fun i wr=>∃ k:Nat,k<=l.length/\i=.int .i64 k/\Hid (FM l k)/\Hid (Below w.heap.size w wr)) (fun i _=>l.length-(intOf i).toNat)
 case atStart=>exact⟨0,z0,rfl,FM.zero,bR⟩
 case round=>
  obtain⟨k,hk,rfl,HI,HB⟩:=hrel;by_cases hlt:k<l.length
  ·obtain⟨y,hy⟩:∃ y,l[k]?=some y:=⟨_,gG hlt⟩
   by_cases k0:k=0
   ·have k0':decide (0<(k:Int))=false:=dF (by omega);have k0n:decide (0<k)=false:=dF (by omega);have HI2:Hid (FM l (k+1)):=by show FM _ _;rw[k0];exact FM.one
    clear k0 hy;go_wp2;go_quiet (fail);go_wp2;go_roundw
    case rel=>exact⟨k+1,by omega,by go_num,HI2,ae (am HB.out _)⟩
    case measure=>simp[intOf];omega
   ·have k0':decide (0<(k:Int))=true:=dT (by omega);have k0n:decide (0<k)=true:=dT (by omega);have kpos:0<k:=by omega
    obtain⟨x,hx⟩:∃ x,l[k-1]?=some x:=⟨_,gG (by omega)⟩
    obtain⟨b1,off1,hA1,he1⟩:=(HR.out.below HB.out).elem fD k y hy;obtain⟨b2,off2,hA2,he2⟩:=(HR.out.below HB.out).elem fD (k-1) x hx;have p1:=he1 0 _ rfl;have p2:=he2 0 _ rfl;simp only[Nat.add_zero] at p1 p2;have hix1:=fun W=>aB (T:=25) (E:=44) (sz:=2) (c:=c) Tryz.underlying25 rfl Tryz.sizeOf44 hA1 hlt W;have hix2:=fun W=>zt (T:=25) (E:=44) (sz:=2) (c:=c) (i:=(k:Int)-1) Tryz.underlying25 rfl Tryz.sizeOf44 (by omega) hA2 (show k-1<l.length by omega) W;have iw:IntKind.i64.wrap ((k:Int)-1)=(k:Int)-1:=IntWalk.i64_in _ (by omega);have HX:=ae hx;have HY:=ae hy;clear hx hy hA1 hA2 he1 he2 k0;by_cases hp:x.phase<y.phase
    ·have HI2:Hid (FM l (k+1)):=HI.out.next HX.out HY.out hp;have hp2:decide (y.phase<=x.phase)=false:=dF (by omega);go_wp2;go_quiet (fail);go_wp2_with fail;clear iw hix1 hix2;go_roundw
     case rel=>exact⟨k+1,by omega,by go_num,HI2,ae (am HB.out _)⟩
     case measure=>simp[intOf];omega
    ·have E:=ae (vE (fmt:=fmt) h7 (vD l (k-1) x y HX.out (by rw[show k-1+1=k by omega];exact HY.out) hp));have hp2:decide (y.phase<=x.phase)=true:=dT (by omega);go_wp2;go_quiet (fail);go_wp2;go_ret;exact⟨aI (by rw[E.out]),am HB.out _⟩
  ·have HIN:Hid (sZ l=true):=HI.out.all (by omega);go_wp2;go_loopw [36] (fun i wr=>∃ k:Nat,k<=l.length/\i=.int .i64 k/\Hid ((l.take k).all (Ol fmt)=true)/\Hid (Below w.heap.size w wr)) (fun i _=>l.length-(intOf i).toNat)
   case atStart=>exact⟨0,z0,rfl,by simp[Hid],HB⟩
   case round=>
    clear HB;obtain⟨m,hm,rfl,HA,HB⟩:=hrel;by_cases hlt2:m<l.length
    ·obtain⟨x,hx⟩:∃ x,l[m]?=some x:=⟨_,gG hlt2⟩
     have hbs:=HF.out x (gM hx);obtain⟨b1,off1,hA1,he1⟩:=(HR.out.below HB.out).elem fD m x hx;have p1:=he1 0 _ rfl;have p2:=he1 1 _ rfl;simp only[Nat.add_zero] at p1;have hix1:=fun W=>aB (T:=25) (E:=44) (sz:=2) (c:=c) Tryz.underlying25 rfl Tryz.sizeOf44 hA1 hlt2 W;have HX:=ae hx;have HB2:Hid (Below w.heap.size w (wr.alloc (.cells #[.int .i64 x.phase,.string x.body] 44))):=HB.out.alloc HB.out.size _;clear hx hA1 he1;go_wp2_with fail;refine(rk fmt x.phase hfmt _).mono ?_;rintro e w' ⟨rfl,rfl⟩;cases g1:Ok fmt x.phase
     ·have E:=ae (jJ (fmt:=fmt) h7 HIN.out (iW HX.out (by unfold Ol;rw[g1];rfl)));clear g1;go_wp2;go_ret;exact⟨aI (by rw[E.out]),HB2.out⟩
     by_cases s1:x.body.size<1
     ·have E:=ae (jJ (fmt:=fmt) h7 HIN.out (iW HX.out (by unfold Ol;rw[dF];simp)));clear g1;go_wp2;go_ret;exact⟨aI (by rw[E.out]),HB2.out⟩
     by_cases s2:4096<x.body.size
     ·have E:=ae (jJ (fmt:=fmt) h7 HIN.out (iW HX.out (by unfold Ol;rw[dF];simp)));clear g1;go_wp2;go_ret;exact⟨aI (by rw[E.out]),HB2.out⟩
     have G1:=ae g1;clear g1;go_wp2_with fail;refine(xN x.body _).mono ?_;rintro e w' ⟨rfl,rfl⟩;cases g2:(bl x.body).contains 0
     ·have HA2:Hid ((l.take (m+1)).all (Ol fmt)=true):=tU HX.out HA.out (by unfold Ol;rw[G1.out,g2,dT];rfl);clear g2;go_wp2;go_roundw
      case rel=>exact⟨m+1,by omega,by go_num,HA2,HB2⟩
      case measure=>simp[intOf];omega
     ·have E:=ae (jJ (fmt:=fmt) h7 HIN.out (iW HX.out (by unfold Ol;rw[g2];simp)));clear g2;go_wp2;go_ret;exact⟨aI (by rw[E.out]),HB2.out⟩
    ·have E:=ae (CD (fmt:=fmt) h7 HIN.out (by have:=HA.out;rw[tL (by omega)] at this;exact this));go_wp2;go_ret;exact⟨aI (by rw[E.out]),HB.out⟩
end
section
open Go.RowKit Go.Maps
def iU:List ag->BA->Int->Int
 | [],_,_=>-1
 | x::r,s,k=>if x.path=s then k else iU r s (k+1)
theorem NE {l:List ag}{x:ag}(h:l[k]?=some x)(h0:iU l s 0=iU (l.drop k) s k)(hp:x.path=s):iU l s 0=k:=by
 obtain⟨hk,hf⟩:=gS h;rw[h0,List.drop_eq_getElem_cons hk,hf,iU,if_pos hp]
theorem Kv {l:List ag}{x:ag}(h:l[k]?=some x)(h0:iU l s 0=iU (l.drop k) s k)(hp:¬ x.path=s):iU l s 0=iU (l.drop (k+1)) s ((k+1:Nat):Int):=by
 obtain⟨hk,hf⟩:=gS h;rw[h0,List.drop_eq_getElem_cons hk,hf,iU,if_neg hp];rfl
theorem NF {l:List ag}(hk:l.length<=k)(h0:iU l s 0=iU (l.drop k) s k):iU l s 0=-1:=by
 rw[h0,List.drop_of_length_le hk];rfl
theorem Gv (A:OA)(c:Nat)(l:List ag)(s:BA)(w:World)(hE:cV w A l)(hn:l.length<=100000):Calls Tryz.prog 38 #[.slice A l.length c,.string s] w fun e w'=>e=.returned (.int .i64 (iU l s 0))/\w=w':=by
 have HE:=ae hE;clear hE;go_in;go_wp2;go_loop [5] (fun i=>∃ (k:Nat),k<=l.length/\i=.int .i64 k/\Hid (iU l s 0=iU (l.drop k) s k)) (fun i=>l.length-(intOf i).toNat)
 case atStart=>exact⟨0,z0,rfl,rfl⟩
 case round=>
  obtain⟨k,hk,rfl,P⟩:=hrel;by_cases hlt:k<l.length
  ·obtain⟨x,hx⟩:∃ x,l[k]?=some x:=⟨_,gG hlt⟩
   obtain⟨b,off,hA,hel⟩:=HE.out.row.elem bi k x hx;have hix:=fun W=>aB (T:=28) (E:=35) (sz:=10) (c:=c) Tryz.underlying28 rfl Tryz.sizeOf35 hA hlt W;have e0:=hel 0 _ rfl;simp only[Nat.add_zero] at e0;have HX:=ae hx;clear hx hA hel;by_cases hp:x.path=s
   ·have q:(x.path.toList==s.toList)=true:=by rw[hp];simp
    have R:Hid (iU l s 0=(k:Int)):=NE HX.out P.out hp;clear hp;go_wp2;go_ret;exact⟨aI R.out.symm,rfl⟩
   ·have q:(x.path.toList==s.toList)=false:=by rw[et];exact dF (fun e=>hp e)
    have R:Hid (iU l s 0=iU (l.drop (k+1)) s ((k+1:Nat):Int)):=Kv HX.out P.out hp;clear hp;go_wp2;go_round
    case rel=>exact⟨k+1,by omega,by go_num,R⟩
    case measure=>simp[intOf];omega
  ·have R:Hid (iU l s 0=-1):=NF (by omega) P.out;go_wp2;go_ret;exact⟨aI R.out.symm,rfl⟩
theorem NG (s:BA):lu s=(decide (s.size<=31)&&((!lA (bl s) 0)&&((!lA (bl s) 10)&&(!lA (bl s) 58)))):=by
 have h:∀ l:LU,Lib.containsAny l [0,10,58]=(lA l 0||(lA l 10||lA l 58)):=by
  intro l;unfold Lib.containsAny lA
  induction l with
  | nil=>rfl
  | cons b r ih=>
   have hg:=Lib.indexAny_ge [0,10,58] r;unfold Lib.indexAny;by_cases hb:([0,10,58]:LU).contains b=true
   ·rw[if_pos hb];simp at hb;rcases hb with rfl | rfl | rfl<;>simp
   ·rw[if_neg hb];simp at hb;obtain⟨h0,h1,h2⟩:=hb;have e:decide (0<=(if (Lib.indexAny r [0,10,58] == -1)=true then (-1:Int) else Lib.indexAny r [0,10,58]+1))=decide (0<=Lib.indexAny r [0,10,58]):=by
     rw[bI,decide_eq_true_eq,decide_eq_true_eq];split
     ·rename_i k;have:=eq_of_beq k;omega
     ·rename_i k;have:Lib.indexAny r [0,10,58]≠-1:=fun e=>k (by rw[e];rfl);omega
    rw[e,ih];have c0:∀ c:UInt8,¬ b=c->(b::r).contains c=r.contains c:=fun c hc=>by
     rw[List.contains_cons,show(c==b)=false from by simpa using fun e=>hc e.symm,Bool.false_or]
    rw[c0 0 h0,c0 10 h1,c0 58 h2]
 unfold lu;rw[h];cases lA (bl s) 0<;>cases lA (bl s) 10<;>cases lA (bl s) 58<;>simp
theorem Dq (s:BA)(w:World)(hs:s.size<=9223372036854775807):Calls Tryz.prog 157 #[.string s] w fun e w'=>e=.returned (.bool (lu s))/\w=w':=by
 rw[NG];go_in;by_cases h:s.size<=31
 case neg=>
  have q:decide (s.size<=31)=false:=dF h;rw[q];have q2:¬ (s.size:Int)<=31:=by omega
  go_wp2;go_ret;exact⟨rfl,rfl⟩
 have q:decide (s.size<=31)=true:=dT h;rw[q];have q2:(s.size:Int)<=31:=by omega
 clear h q;have F:=fun c W=>ae (tp s c W hs);go_wp2_with fail;refine(F 0 _).out.mono ?_;rintro e w1 ⟨rfl,rfl⟩;cases h0:lA (bl s) 0
 case true=>go_wp2_with fail;go_ret;exact⟨by rw[h0];rfl,rfl⟩
 go_wp2_with fail;refine(F 10 _).out.mono ?_;rintro e w1 ⟨rfl,rfl⟩;cases h1:lA (bl s) 10
 case true=>go_wp2_with fail;go_ret;exact⟨by rw[h0,h1];rfl,rfl⟩
 go_wp2_with fail;refine(F 58 _).out.mono ?_;rintro e w1 ⟨rfl,rfl⟩;cases h2:lA (bl s) 58
 all_goals (go_wp2_with fail;go_ret;exact⟨by rw[h0,h1,h2];rfl,rfl⟩)
end
end Go.Proofs.YtlglfpbhapmhiaaGreatDoor
