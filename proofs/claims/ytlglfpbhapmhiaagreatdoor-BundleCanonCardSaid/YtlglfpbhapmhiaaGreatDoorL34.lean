/- A part of the proof. -/
import Derived.Test.YtlglfpbhapmhiaaGreatDoorL32
import Derived.Test.YtlglfpbhapmhiaaGreatDoorL33
set_option maxRecDepth 100000
set_option maxHeartbeats 20000000
set_option linter.unusedVariables false
set_option linter.unusedSimpArgs false
namespace Go.Proofs.YtlglfpbhapmhiaaGreatDoor
section
open Go.RowKit Go.Maps
theorem lQ {fmt:Int}{x:ag}(h:eT fmt x.owner=false\/eT fmt x.group=false\/x.uid≠0\/x.gid≠0\/4294967295<x.mtime):cP fmt x=false:=by
 unfold cP;rcases h with h | h | h | h | h
 ·simp[h]
 ·simp[h]
 ·simp[h]
 ·simp[h]
 ·have h2:¬ x.mtime<=4294967295:=by omega
  simp[h2]
theorem Ki {fmt:Int}{x:ag}(h1:eT fmt x.owner=true)(h2:eT fmt x.group=true)(h3:x.uid=0)(h4:x.gid=0)(h5:¬ 4294967295<x.mtime):cP fmt x=(!decide (x.kind=3)||(decide (x.mode=511)&&fY (bl x.link))):=by
 unfold cP;rw[h1,h2,h3,h4,dT (show x.mtime<=4294967295 by omega)];simp
theorem qr (fmt:Int)(x:ag)(w:World)(hs:x.small):Calls Tryz.prog 35 #[.int .i64 fmt,x.val] w fun e w'=>e=.returned (.bool (cP fmt x))/\Below w.heap.size w w':=by
 have HS:=ae hs;clear hs;obtain⟨W0,hW0⟩:∃ W0,w.alloc (.cells #[.string x.path,.int .i64 x.kind,.int .i64 x.mode,.int .i64 x.uid,.int .i64 x.gid,.string x.owner,.string x.group,.int .i64 x.mtime,.string x.link,.slice x.da x.data.length x.dc] 35)=W0:=⟨_,rfl⟩
 have B0:Hid (EB w W0 x):=by show EB _ _ _;rw[<-hW0];exact EB.start w x
 have c1:=B0.out.blk.cell 1 _ rfl;have c2:=B0.out.blk.cell 2 _ rfl;have c3:=B0.out.blk.cell 3 _ rfl;have c4:=B0.out.blk.cell 4 _ rfl;have c5:=B0.out.blk.cell 5 _ rfl;have c6:=B0.out.blk.cell 6 _ rfl;have c7:=B0.out.blk.cell 7 _ rfl;have c8:=B0.out.blk.cell 8 _ rfl;unfold ag.val;go_in;go_wp2_with fail;clear hW0;refine(kO fmt x.owner _ (by have:=HS.out.owner;omega)).mono ?_;rintro e w' ⟨rfl,rfl⟩;cases h1:eT fmt x.owner
 ·have E:Hid (cP fmt x=false):=lQ (.inl h1);clear h1;go_wp2;go_ret;exact⟨af E.out.symm,B0.out.bel⟩
 have H1:=ae h1;clear h1;go_wp2_with fail;refine(kO fmt x.group _ (by have:=HS.out.group;omega)).mono ?_;rintro e w' ⟨rfl,rfl⟩;cases h2:eT fmt x.group
 ·have E:Hid (cP fmt x=false):=lQ (.inr (.inl h2));clear h2;go_wp2;go_ret;exact⟨af E.out.symm,B0.out.bel⟩
 have H2:=ae h2;clear h2;by_cases h3:x.uid=0
 case neg=>
  have q3:(x.uid != 0)=true:=by simpa using h3
  have E:Hid (cP fmt x=false):=lQ (.inr (.inr (.inl h3)));clear h3;go_wp2;go_ret;exact⟨af E.out.symm,B0.out.bel⟩
 have q3:(x.uid != 0)=false:=by simp[h3]
 have H3:=ae h3;clear h3;by_cases h4:x.gid=0
 case neg=>
  have q4:(x.gid != 0)=true:=by simpa using h4
  have E:Hid (cP fmt x=false):=lQ (.inr (.inr (.inr (.inl h4))));clear h4;go_wp2;go_ret;exact⟨af E.out.symm,B0.out.bel⟩
 have q4:(x.gid != 0)=false:=by simp[h4]
 have H4:=ae h4;clear h4;by_cases h5:4294967295<x.mtime
 case pos=>
  have E:Hid (cP fmt x=false):=lQ (.inr (.inr (.inr (.inr h5))));go_wp2;go_ret;exact⟨af E.out.symm,B0.out.bel⟩
 have E:=ae (Ki H1.out H2.out H3.out H4.out h5);by_cases h6:x.kind=3
 case neg=>
  have q6:(x.kind != 3)=true:=by simpa using h6
  have E2:Hid (cP fmt x=true):=by show _=_;rw[E.out];simp[h6]
  clear h6;go_wp2;go_ret;exact⟨af E2.out.symm,B0.out.bel⟩
 have q6:(x.kind != 3)=false:=by simp[h6]
 by_cases h7:x.mode=511
 case neg=>
  have q7:(x.mode==511)=false:=by simpa using h7
  have E2:Hid (cP fmt x=false):=by show _=_;rw[E.out];simp[h6,h7]
  clear h6 h7;go_wp2;go_ret;exact⟨af E2.out.symm,B0.out.bel⟩
 have q7:(x.mode==511)=true:=by simpa using h7
 have E2:Hid (cP fmt x=fY (bl x.link)):=by show _=_;rw[E.out];simp[h6,h7]
 clear h6 h7;go_wp2_with fail;refine(kF x.link _ (by have:=HS.out.link;omega)).mono ?_;rintro e w' ⟨rfl,rfl⟩;go_wp2;go_ret;exact⟨af E2.out.symm,B0.out.bel⟩
def jA (conf:List BA)(k:Nat):Option BA:=if k=0 then none else conf[k-1]?
theorem Nh {l:List ag}{conf:List BA}{k:Nat}{s:BA}(h:conf[k]?=some s):kA l (jA conf k) (conf.drop k)=(vP l (jA conf k) s&&kA l (jA conf (k+1)) (conf.drop (k+1))):=by
 obtain⟨hk,hx⟩:=gS h;have e:jA conf (k+1)=some s:=by unfold jA;rw[if_neg (by omega)];exact h
 rw[e,List.drop_eq_getElem_cons hk,hx,kA]
theorem Pn (s t:BA):(Op.bytesLess s.toList t.toList||s.toList==t.toList)=!decide (bl t<bl s):=MG s t
theorem mw (w:World):(zeroValue 3).run Tryz.prog w=.ok (.int .i64 0) w:=by kernel_rfl
theorem ru (fmt:Int)(Ac Ae:OA)(cc ce:Nat)(conf:List BA)(l:List ag)(w:World)(hc:Rd w 1 Ac conf.length (ay conf))(hE:cV w Ae l)(hl:l.length<=100000)(hcl:conf.length<=100000)
  (hcs:∀ s∈conf,s.size<=1000000)(hs:∀ x∈l,x.small):Calls Tryz.prog 36 #[.int .i64 fmt,.slice Ac conf.length cc,.slice Ae l.length ce] w fun e w'=>e=.returned (.bool (tD fmt conf l))/\Below w.heap.size w w':=by
 have HC:=ae hc;have HE:=ae hE;have HS:=ae hs;have HCS:=ae hcs;clear hc hE hs hcs;by_cases h3:fmt=3
 ·subst h3;by_cases h0:conf.length=0
  ·have q:((conf.length:Int)==0)=true:=by simp[h0]
   have E:Hid (tD 3 conf l=true):=by show _=_;unfold tD;rw[if_pos rfl];exact dT h0
   clear h0;go_in;go_wp2;go_ret;exact⟨af E.out.symm,bR⟩
  ·have q:((conf.length:Int)==0)=false:=by simp;intro e;rw[e] at h0;simp at h0
   have E:Hid (tD 3 conf l=false):=by show _=_;unfold tD;rw[if_pos rfl];exact dF h0
   clear h0;go_in;go_wp2;go_ret;exact⟨af E.out.symm,bR⟩
 have q:(fmt==3)=false:=by simpa using h3
 have E:Hid (tD fmt conf l=kA l none conf):=by show _=_;unfold tD;rw[if_neg h3]
 clear h3;have hmm:=@run_makeMap Tryz.prog;go_in;go_wp2_with fail;clear hmm;go_loopw [21] (fun i wr=>∃ k:Nat,k<=l.length/\i=.int .i64 k/\Hid (bm wr w.heap.size k (Qp (l.take k)))/\Hid (Below w.heap.size w wr)) (fun i _=>l.length-(intOf i).toNat)
 case atStart=>exact⟨0,z0,rfl,bm.made w,bR.alloc lr _⟩
 case round=>
  obtain⟨k,hk,rfl,HM,HB⟩:=hrel;by_cases hlt:k<l.length
  ·obtain⟨x,hx⟩:∃ x,l[k]?=some x:=⟨_,gG hlt⟩
   obtain⟨b,off,hA,hel⟩:=((HE.out.below HB.out).row).elem bi k x hx;have hix:=fun W=>aB (T:=28) (E:=35) (sz:=10) (c:=ce) Tryz.underlying28 rfl Tryz.sizeOf35 hA hlt W;have e0:=hel 0 _ rfl;have e1:=hel 1 _ rfl;have e2:=hel 2 _ rfl;have e3:=hel 3 _ rfl;have e4:=hel 4 _ rfl;have e5:=hel 5 _ rfl;have e6:=hel 6 _ rfl;have e7:=hel 7 _ rfl;have e8:=hel 8 _ rfl;have e9:=hel 9 _ rfl;simp only[Nat.add_zero] at e0;have HX:=ae hx;have hxs:=(HS.out x (gM hx)).path;have hlen:(l.take k).length=k:=by rw[List.length_take];omega
   have hz:w.heap.size<wr.heap.size:=HM.out.lt;clear hx hA hel;obtain⟨w4,hrun,hm,hg⟩:=(HM.out.alloc (.cells #[.string x.path,.int .i64 x.kind,.int .i64 x.mode,.int .i64 x.uid,.int .i64 x.gid,.string x.owner,.string x.group,.int .i64 x.mtime,.string x.link,.slice x.da x.data.length x.dc] 35)).put Tryz.underlying104 (by unfold maxLen;omega) x.path (by unfold maxLen;omega) (.int .i64 x.kind);have M4:Hid (bm w4 w.heap.size (k+1) (Qp (l.take (k+1)))):=by show bm _ _ _ _;rw[kB HX.out,Ne];exact hm
   have B4:Hid (Below w.heap.size w w4):=(HB.out.alloc HB.out.size _).grown hg (by simp;omega) (fun j hj=>by injection hj with hj;omega);clear hm hg hlen;go_wp2;go_roundw
   case rel=>exact⟨k+1,by omega,by go_num,M4,B4⟩
   case measure=>simp[intOf];omega
  ·have HM2:Hid (bm wr w.heap.size k (Qp l)):=by have:=HM.out;rw[tL (by omega)] at this;exact this
   have HC2:=ae (HC.out.below HB.out);clear HM;go_wp2;go_loop [33] (fun i=>∃ j:Nat,j<=conf.length/\i=.int .i64 j/\Hid (tD fmt conf l=kA l (jA conf j) (conf.drop j))) (fun i=>conf.length-(intOf i).toNat)
   case atStart=>exact⟨0,z0,rfl,E⟩
   case round=>
    obtain⟨j,hj,rfl,HA⟩:=hrel;by_cases hlt2:j<conf.length
    case neg=>
     have R:Hid (tD fmt conf l=true):=by show _=_;rw[HA.out,List.drop_of_length_le (by omega)];rfl
     go_wp2;go_ret;exact⟨af R.out.symm,HB.out⟩
    obtain⟨s,hs⟩:∃ s,conf[j]?=some s:=⟨_,gG hlt2⟩
    obtain⟨bp,op,hAp,hep⟩:=HC2.out.str j s hs;have hixp:=fun W=>aB (T:=22) (E:=9) (sz:=1) (c:=cc) Tryz.underlying22 rfl Tryz.sizeOf9 hAp hlt2 W;simp only[Nat.mul_one] at hixp;have HAT:=ae (Nh (l:=l) hs);have hss:=HCS.out s (gM hs);have hlk:=HM2.out.look Tryz.underlying104 mw s (by unfold maxLen;omega);obtain⟨kd,hkd⟩:∃ kd:Int,(Qp l s).getD (.int .i64 0)=.int .i64 kd/\(lj l s).getD 0=kd:=by
     unfold Qp;cases lj l s with
     | none=>exact⟨0,rfl,rfl⟩
     | some k=>exact⟨k,rfl,rfl⟩
    rw[hkd.1] at hlk;have KD:=ae hkd.2;clear hkd
    -- the order,then the kind
    have key:∀ o:Bool,Sr (jA conf j) s=o->tD fmt conf l=((o&&(decide (kd=1)||decide (kd=4)))&&kA l (jA conf (j+1)) (conf.drop (j+1))):=by
     intro o ho;rw[HA.out,HAT.out];unfold vP;rw[ho,KD.out]
    have KEY:=ae key;clear key;have fin:True:=trivial;by_cases h0:j=0
    ·have K2:=ae (KEY.out true (by unfold jA;rw[if_pos h0];rfl));have hz:¬ (0:Int)<(j:Int):=by omega
     clear hs hAp h0;by_cases k1:kd=1\/kd=4
     ·have R:Hid (tD fmt conf l=kA l (jA conf (j+1)) (conf.drop (j+1))):=by show _=_;rw[K2.out];rcases k1 with rfl | rfl<;>simp
      rcases k1 with rfl | rfl
      all_goals
       go_wp2;go_round
       case rel=>exact⟨j+1,by omega,by go_num,R⟩
       case measure=>simp[intOf];omega
     ·have R:Hid (tD fmt conf l=false):=by show _=_;rw[K2.out];simp;intro h;exact absurd h k1
      have q1:(kd != 1)=true:=by simp;omega
      have q4:(kd != 4)=true:=by simp;omega
      clear k1;go_wp2;go_ret;exact⟨af R.out.symm,HB.out⟩
    ·obtain⟨t,ht⟩:∃ t,conf[j-1]?=some t:=⟨_,gG (by omega)⟩
     obtain⟨bq,oq,hAq,heq⟩:=HC2.out.str (j-1) t ht;have hixq:=fun W=>aB (T:=22) (E:=9) (sz:=1) (c:=cc) Tryz.underlying22 rfl Tryz.sizeOf9 hAq (show j-1<conf.length by omega) W;simp only[Nat.mul_one] at hixq;have hjm:((j-1:Nat):Int)=(j:Int)-1:=by omega
     rw[hjm] at hixq;have hpos:(0:Int)<(j:Int):=by omega
     have hleq:=Pn s t;have K2:=ae (KEY.out (decide (bl t<bl s)) (by unfold jA;rw[if_neg h0,ht];rfl));obtain⟨o,ho⟩:∃ o,decide (bl t<bl s)=o:=⟨_,rfl⟩
     rw[ho] at hleq K2;clear ho hs hAp ht hAq hjm;cases o
     ·have R:Hid (tD fmt conf l=false):=by show _=_;rw[K2.out];rfl
      go_wp2;go_ret;exact⟨af R.out.symm,HB.out⟩
     by_cases k1:kd=1\/kd=4
     ·have R:Hid (tD fmt conf l=kA l (jA conf (j+1)) (conf.drop (j+1))):=by show _=_;rw[K2.out];rcases k1 with rfl | rfl<;>simp
      rcases k1 with rfl | rfl
      all_goals
       go_wp2;go_round
       case rel=>exact⟨j+1,by omega,by go_num,R⟩
       case measure=>simp[intOf];omega
     ·have R:Hid (tD fmt conf l=false):=by show _=_;rw[K2.out];simp;intro h;exact absurd h k1
      have q1:(kd != 1)=true:=by simp;omega
      have q4:(kd != 4)=true:=by simp;omega
      clear k1;go_wp2;go_ret;exact⟨af R.out.symm,HB.out⟩
end
end Go.Proofs.YtlglfpbhapmhiaaGreatDoor
