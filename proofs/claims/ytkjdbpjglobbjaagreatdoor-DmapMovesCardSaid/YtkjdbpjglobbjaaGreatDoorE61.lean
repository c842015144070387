/- A part of the proof of a law on dependencies in three formats. No condition. -/
import Derived.Test.YtkjdbpjglobbjaaGreatDoorE11
import Derived.Test.YtkjdbpjglobbjaaGreatDoorE36
import Derived.Test.YtkjdbpjglobbjaaGreatDoorE38
import Derived.Test.YtkjdbpjglobbjaaGreatDoorE41
set_option maxRecDepth 100000
set_option maxHeartbeats 20000000
set_option linter.unusedVariables false
set_option linter.unusedSimpArgs false
namespace Go.Proofs.YtkjdbpjglobbjaaGreatDoor
section
open Go.RowKit
theorem Nn (fmt:Int)(hfm:dk fmt)(s:BA)(w:World)(hs:s.size≤9223372036854775807):
  Calls Tryz.prog 51 #[.int .i64 fmt,.string s] w (tp fmt s w):=by
 have HFM:=ae hfm
 clear hfm
 obtain⟨W0,hW0⟩:∃ W0,w.alloc (.cells #[.int .i64 0,.slice none 0 0,.string ⟨#[]⟩,.string ⟨#[]⟩,.int .i64 0,.int .i64 0] 95)=W0:=⟨_,rfl⟩
 have B0:Hid (Below w.heap.size w W0):=by rw[←hW0];exact bR.alloc lr _
 have K0:Hid (aF W0 w.heap.size mX):=by show aF _ _ _;rw[←hW0];exact aF.new w mX _
 go_enter Tryz.func51,Tryz.ntmps51
 go_wp2_with fail
 clear hW0
 refine(Nm fmt s _ hs).mono ?_;rintro e w1 ⟨rfl,hb1⟩
 have B1:=ae (ah B0.out hb1)
 have K1:=ae (K0.out.below hb1)
 clear hb1 B0 K0
 by_cases hv:¬ aV fmt s=0
 ·have E:Hid (dN fmt s=aV fmt s):=by show _=_;unfold dN;rw[if_pos hv]
  have E0:Hid (¬ dN fmt s=0):=by show ¬ _;rw[E.out];exact hv
  have q:(aV fmt s != 0)=true:=by simpa [bne] using hv
  obtain⟨r0,r1,r2,r3,r4,r5,f0,f1,f2,f3,f4,f5⟩:=jo K1.out
  generalize aV fmt s=ve at *
  clear hv
  go_wp2_with fail
  refine bodyPost_ret (lH K1.out rfl rfl 0 none 0 0 _ _ 0 0) rfl ?_
  exact⟨bG.zero,by rw[E.out];rfl,Rd.nil _ _ _,bG.zero_few,fun h=>absurd h E0.out,iu B1.out _ _ _ _ _ _⟩
 have hv0:aV fmt s=0:=Decidable.not_not.1 hv
 have s64:=(cZ HFM.out hv0).2
 have HNO:=ae fun h=>TQ (fmt:=fmt) HFM.out hv0 h
 have HBAD:=ae fun (c:aT) h h2=>RS (fmt:=fmt) HFM.out hv0 (c:=c) h h2
 have HYES:=ae fun (c:aT) h h2=>Pn (fmt:=fmt) HFM.out hv0 (c:=c) h h2
 have q:(aV fmt s != 0)=false:=by rw[hv0];rfl
 generalize aV fmt s=ve at *
 clear hv hv0
 obtain⟨W2,hW2⟩:∃ W2,w1.alloc (.cells #[.int .i64 0,.slice none 0 0,.string ⟨#[]⟩,.string ⟨#[]⟩,.int .i64 0,.int .i64 0] 95)=W2:=⟨_,rfl⟩
 have P0:Hid (xi w W2 w1.heap.size mX):=by
  show xi _ _ _ _;rw[←hW2]
  exact⟨ah B1.out (bR.alloc lr _),K1.out.alloc _,aF.new w1 mX _,K1.out.sz⟩
 have HCB:=ae P0.out.lo
 have HW2:=ae hW2
 clear B1 K1 hW2
 go_upto_region 5 with(fail)
 rw[HW2.out]
 clear HW2
 go_wp2_with fail
 generalize w1.heap.size=cb at *
 have hcb1:w.heap.size<cb:=HCB.out
 have hcb2:¬ w.heap.size=cb:=by omega
 have hcb3:¬ cb=w.heap.size:=by omega
 go_loopw [8,9] (fun s8 s9 wr=>∃ (k:Nat) (rs:BA) (ep:Nat),k≤s.size∧s8=.string rs∧s9=.int .i64 k∧rs.size≤64∧Hid (ep≤999999999)∧Hid (El (bl s) k ep (bl rs))∧Hid (xi w wr cb [.int .i64 ep,.slice none 0 0,.string ⟨#[]⟩,.string ⟨#[]⟩,.int .i64 0,.int .i64 0])) (fun _ i _=>s.size-(intOf i).toNat)
 case atStart=>exact⟨0,s,0,z0,rfl,rfl,s64,by show _≤_;omega,El.start _,P0⟩
 case round=>
  clear P0
  obtain⟨k,rs,ep,hk,rfl,rfl,hrs,HEP,HES,P1⟩:=hrel
  by_cases hlt:k<s.size
  ·have HX:Hid ((bl s)[k]?=some s[k]):=ie s k hlt
   obtain⟨ch,hch⟩:∃ ch,s[k]=ch:=⟨_,rfl⟩
   rw[hch] at HX
   by_cases h58:ch.toNat=58
   ·have hc58:ch=58:=UInt8.toNat_inj.1 h58
    rw[hc58] at HX
    clear hc58
    obtain⟨r0,r1,r2,r3,r4,r5,f0,f1,f2,f3,f4,f5⟩:=jo P1.out.res
    cases ht:dL (bl s) with
    | none=>
     have HT:=ae (fun W=>vv s W (by omega) ht)
     have E:=ae (HNO.out (RM (Pi HX.out ht)))
     clear ht r0 r1 r2 r3 r4 r5 f0 f1 f2 f3 f4 f5
     go_wp2_with fail
     refine(HT.out _).mono ?_;rintro e w3 ⟨rfl,hb3⟩
     have P2:=ae (P1.out.step hb3)
     have P3:=ae (P2.out.step (bR.alloc lr (.cells #[.int .i64 0,.string ⟨#[]⟩,.bool false] 139)))
     clear hb3 P2
     obtain⟨r0,r1,r2,r3,r4,r5,f0,f1,f2,f3,f4,f5⟩:=jo P3.out.res
     go_wp2_with fail
     refine bodyPost_ret (lH P3.out.res rfl rfl 0 none 0 0 _ _ 0 0) rfl ?_
     exact iB E.out P3.out.bel
    | some x=>
     obtain⟨n,r⟩:=x
     have HT:=ae (fun W=>rU s W (by omega) ht)
     have HN:Hid (n≤999999999):=(oF ht).2
     have hki:(k:Int)+1≤(s.size:Int):=by omega
     have hex:bl (s.extract (k+1) s.size)=(bl s).drop (k+1):=aX _ _
     have ES:Hid (El (bl s) (k+1) n (bl (s.extract (k+1) s.size))):=by show El _ _ _ _;rw[hex];exact El.hit HX.out ht
     have exs:(s.extract (k+1) s.size).size≤64:=by have:=af (s.extract (k+1) s.size);rw[hex,List.length_drop] at this;have h2:=af s;omega
     clear ht r0 r1 r2 r3 r4 r5 f0 f1 f2 f3 f4 f5 hex
     go_wp2_with fail
     refine(HT.out _).mono ?_;rintro e w3 ⟨rfl,hb3⟩
     have P2:=ae (P1.out.step hb3)
     have P3:=ae (P2.out.step (bR.alloc lr (.cells #[.int .i64 n,.string (bz r),.bool true] 139)))
     have hne:¬ cb=w3.heap.size:=by have:=P2.out.box.sz;omega
     clear hb3 P2
     have c0:=P3.out.box.cell 0 _ rfl
     have f0:=P3.out.box.free 0 (by simp)
     have P4:=ae (P3.out.set 0 (by simp) (.int .i64 n))
     go_wp2_with fail
     go_roundw
     case rel=>exact⟨k+1,_,n,by omega,rfl,by go_num,exs,HN,ES,P4⟩
     case measure=>simp[intOf];omega
   ·have ES:Hid (El (bl s) (k+1) ep (bl rs)):=HES.out.next HX.out (by intro e;exact h58 (by rw[e];rfl))
    go_wp2_with fail
    go_roundw
    case rel=>exact⟨k+1,rs,ep,by omega,rfl,by go_num,hrs,HEP,ES,P1⟩
    case measure=>simp[intOf];omega
  ·have HRC:Hid (nd fmt (bl s)=RO fmt ep (iK (rs.size+1) [] (bl rs))):=by show _=_;rw[RP (HES.out.done (by rw[af];omega)),af]
   clear HES
   obtain⟨wo,rfl⟩:∃ wo:World,wo=wr:=⟨_,rfl⟩
   obtain⟨i0,hi,hz0,hz1,hz2⟩:=info_parts rH
   obtain⟨base,hbase⟩:∃ base,wo.heap.size=base:=⟨_,rfl⟩
   have hcb5:cb<base:=by have:=P1.out.box.sz;omega
   have hgb5:w.heap.size<base:=by omega
   have N0:Hid (Ti w wo wo cb w.heap.size base (.slice none 0 0) [] (fun v=>[.int .i64 ep,v,.string ⟨#[]⟩,.string ⟨#[]⟩,.int .i64 0,.int .i64 0])):=
    ⟨P1.out,World.ownsRow_nil _ _ _ _,rfl,by omega⟩
   clear hbase P1
   go_wp2_with fail
   clear hlt hk
   go_loopw [8] (fun s8 wx=>∃ (L:List Nat) (Ao:Option Addr) (n co f:Nat) (rx:BA),s8=.string rx∧n=L.length∧rx.size+n≤64∧rx.size≤f∧Hid (∀ x∈L,x≤999999999)∧Hid (iK (rs.size+1) [] (bl rs)=iK (f+1) L (bl rx))∧Hid (Ti w wo wx cb w.heap.size base (.slice Ao n co) L (fun v=>[.int .i64 ep,v,.string ⟨#[]⟩,.string ⟨#[]⟩,.int .i64 0,.int .i64 0]))) (fun s8 _=>match s8 with | .string x=>x.size | _=>0)
   case atStart=>exact⟨[],none,0,0,rs.size,rs,rfl,rfl,by omega,lr,by simp[Hid],rfl,N0⟩
   case round=>
    clear N0
    obtain⟨L,Ao,n,co,f,rx,rfl,hnL,hrxn,hf,HLE,HNC,NS⟩:=hrel
    have HNL:=ae hnL
    clear hnL
    cases ht:dL (bl rx) with
    | none=>
     have HT:=ae (fun W=>vv rx W (by omega) ht)
     have E:=ae (HNO.out (by rw[HRC.out,HNC.out,IY ht];rfl))
     clear ht
     go_wp2_with fail
     refine(HT.out _).mono ?_;rintro e w3 ⟨rfl,hb3⟩
     have P3:=ae ((NS.out.pc.step hb3).step (bR.alloc lr (.cells #[.int .i64 0,.string ⟨#[]⟩,.bool false] 139)))
     clear hb3
     obtain⟨r0,r1,r2,r3,r4,r5,f0,f1,f2,f3,f4,f5⟩:=jo P3.out.res
     go_wp2_with fail
     refine bodyPost_ret (lH P3.out.res rfl rfl 0 none 0 0 _ _ 0 0) rfl ?_
     exact iB E.out P3.out.bel
    | some x=>
     obtain⟨m,r⟩:=x
     have HT:=ae (fun W=>rU rx W (by omega) ht)
     have hml:=oF ht
     have HM:Hid (m≤999999999):=hml.2
     have hrl:Hid (r.length<rx.size):=by show _<_;rw[←af];exact hml.1
     have HTK:=ae ht
     obtain⟨rb,hrb⟩:∃ rb,bz r=rb:=⟨_,rfl⟩
     have hbr:Hid (bl rb=r):=by show _=_;rw[←hrb,cH]
     have hrz:rb.size<rx.size:=by have:=hrl.out;rw[←af rb,hbr.out];exact this
     rw[hrb] at HT
     clear ht hrb hml
     go_wp2_with fail
     refine(HT.out _).mono ?_;rintro e w3 ⟨rfl,hb3⟩
     obtain⟨W4,hW4⟩:∃ W4,w3.alloc (.cells #[.int .i64 m,.string rb,.bool true] 139)=W4:=⟨_,rfl⟩
     have B34:Hid (Below w3.heap.size w3 W4):=by rw[←hW4];exact bR.alloc lr _
     have G4:Hid (aF W4 w3.heap.size [.int .i64 m,.string rb,.bool true]):=by show aF _ _ _;rw[←hW4];exact aF.new w3 [.int .i64 m,.string rb,.bool true] _
     have NS4:Hid (Ti w wo W4 cb w.heap.size base (.slice Ao n co) L (fun v=>[.int .i64 ep,v,.string ⟨#[]⟩,.string ⟨#[]⟩,.int .i64 0,.int .i64 0])):=by
      have hb:=ah hb3 B34.out
      exact⟨NS.out.pc.step hb,aR NS.out.own hb,(hb.block _ (by have:=NS.out.sz;omega)).trans NS.out.txt,Nat.le_trans NS.out.sz hb.size⟩
     have hgz:base≤w3.heap.size:=Nat.le_trans NS.out.sz hb3.size
     have HW4:=ae hW4
     have FG:Hid (some w3.heap.size≠(Value.slice Ao n co).ownBlock):=by intro e;have h1:=(NS.out.own.lt w3.heap.size e.symm).2;have h2:=hb3.size;omega
     clear hb3 NS hW4
     go_upto_region 16 with(fail)
     rw[HW4.out]
     have g0:=G4.out.cell 0 _ rfl
     have g1:=G4.out.cell 1 _ rfl
     have g2:=G4.out.cell 2 _ rfl
     have k1:=NS4.out.pc.box.cell 1 _ rfl
     have f1:=NS4.out.pc.box.free 1 (by simp)
     have HO:Hid (W4.ownsRow base 3 1 (.slice Ao n co) n (bZ L)):=by have:=NS4.out.own;rw[←HNL.out] at this;exact this
     have hcz:=NS4.out.pc.box.sz
     have hgz4:=G4.out.sz
     generalize w3.heap.size=gb at *
     have FB:Hid (some cb≠(Value.slice Ao n co).ownBlock):=by intro e;have:=(HO.out.lt cb e.symm).1;omega
     have hncb:¬ cb=gb:=by omega
     have hnbc:¬ gb=cb:=by omega
     go_wp2_with (
      at_builtin
      refine ak _ rfl _ _ _ rfl base 3 i0 _ 1 8 Tryz.underlying93 hi hz0 hz1 hz2 rfl (by omega) (.slice Ao n co) n _ rfl (HO.out.alloc _) (W4.heap.size+1) (some ⟨W4.heap.size,0,none⟩) 1 1 [.int .i64 m] rfl (xm W4 _) (by simp[Value.oneCell']) (by simp only[maxLen];omega) (by omega) (by simp;omega) ?_
      intro v1 w6 hown1 hg1 hat1
      obtain⟨A1,c1,rfl⟩:=aG hown1
      have k1':w6.cell? ⟨cb,1,none⟩=some (.slice Ao n co):=hg1.cell ((World.cell?_alloc_lt W4 _ ⟨cb,1,none⟩ hcz).trans k1) FB.out
      have f1':w6.frozen? ⟨cb,1,none⟩=false:=(World.frozen?_of_block (a:=⟨cb,1,none⟩) (hg1.block cb (by simp;omega) FB.out)).trans (((bR.alloc lr _).frozen (p:=⟨cb,1,none⟩) hcz).trans f1)
      have g1':w6.cell? ⟨gb,1,none⟩=some (.string rb):=hg1.cell ((World.cell?_alloc_lt W4 _ ⟨gb,1,none⟩ hgz4).trans g1) FG.out)
     have N1:=ae (NS4.out.app _ (x:=m) (by rw[←HNL.out];exact hown1) hg1 hcb5 hgb5 (by omega))
     clear hown1 hg1 hat1 k1 f1 NS4 HO HW4 B34
     have L1:Hid (∀ x∈L++[m],x≤999999999):=by
      intro x hx
      rcases List.mem_append.1 hx with hx | hx
      ·exact HLE.out x hx
      ·rw[List.mem_singleton.1 hx];exact HM.out
     cases hbd:eQ (bl rb) [46]
     rotate_left
     ·have HBG:=ae (fun W=>kp rb ⟨#[46]⟩ true W (by omega) (by decide) hbd)
      have hcons:=Pk hbd
      have hex:bl (rb.extract 1 rb.size)=(bl rb).drop 1:=aX _ _
      have exz:(rb.extract 1 rb.size).size=rb.size-1:=by have:=af (rb.extract 1 rb.size);rw[hex,List.length_drop,af] at this;omega
      have rb1:1≤rb.size:=by have:=congrArg List.length hcons;rw[af] at this;simp at this;omega
      obtain⟨f1,rfl⟩:∃ f1,f=f1+1:=⟨f-1,by omega⟩
      have NC1:Hid (iK (rs.size+1) [] (bl rs)=iK (f1+1) (L++[m]) (bl (rb.extract 1 rb.size))):=by
       show _=_;rw[HNC.out,hex,Mp (t:=(bl rb).drop 1) (by rw[HTK.out,←hbr.out,←hcons])]
      have LL:Hid ((L++[m]).length=n+1):=by show _=_;rw[List.length_append,List.length_singleton,←HNL.out]
      have ri:(1:Int)≤(rb.size:Int):=by omega
      clear hbd hcons hex
      go_wp2_with fail
      refine(HBG.out _).mono ?_;rintro e w7 ⟨rfl,rfl⟩
      go_wp2_with fail
      go_roundw
      case rel=>exact⟨L++[m],A1,n+1,c1,f1,_,rfl,LL.out.symm,by omega,by omega,L1,NC1,N1⟩
      case measure=>show(rb.extract 1 rb.size).size<rx.size;omega
     ·have HBG:=ae (fun W=>kp rb ⟨#[46]⟩ false W (by omega) (by decide) hbd)
      have HR2:Hid (nd fmt (bl s)=IX fmt ep (L++[m]) (eI (bl rb)).1 (iL (jj fmt) bu ([],0,(eI (bl rb)).2))):=by
       show _=_;rw[HRC.out,HNC.out,Mq (HTK.out) (by rw[←hbr.out];exact hbd),hbr.out,RQ]
      have LL:Hid ((L++[m]).length=n+1):=by show _=_;rw[List.length_append,List.length_singleton,←HNL.out]
      have F1:Hid (xE w (w6.setCell ⟨cb,1,none⟩ (.slice A1 (n+1) c1)) cb base (.slice A1 (n+1) c1) (L++[m]) [.int .i64 ep,.slice A1 (n+1) c1,.string ⟨#[]⟩,.string ⟨#[]⟩,.int .i64 0,.int .i64 0]):=⟨N1.out.pc,N1.out.own,hcb5⟩
      have hLl:n+1≤65:=by omega
      have rb64:rb.size≤64:=by omega
      clear hbd N1 HNC HRC HTK hbr hrl HT hrz hrxn hf
      go_wp2_with fail
      refine(HBG.out _).mono ?_;rintro e w7 ⟨rfl,rfl⟩
      go_upto_region 22 with(fail)
      clear k1' f1' g0 g1 g2 g1' G4 hgz hgz4 FB FG hncb hnbc hcz
      generalize w6.setCell ⟨cb,1,none⟩ (.slice A1 (n+1) c1)=W7 at *
      generalize L++[m]=M at *
      go_cut [83] (fun sl wx=>∃ bb:Bool,sl=.bool bb∧Hid (bb=!(eI (bl rb)).1.isEmpty)∧W7=wx)
      case first=>
       by_cases h0:0<rb.size
       rotate_left
       ·have d0:decide ((0:Int)<(rb.size:Int))=false:=dF (by omega)
        have d1:decide (0<rb.size)=false:=dF h0
        have E:Hid (false=!(eI (bl rb)).1.isEmpty):=by show _=_;rw[bj rb (by omega)];rfl
        go_wp2_with fail
        go_meet
        exact⟨false,rfl,E,rfl⟩
       ·have d0:decide ((0:Int)<(rb.size:Int))=true:=dT (by omega)
        have d1:decide (0<rb.size)=true:=dT h0
        have HC0:=ae (dZ rb h0)
        obtain⟨ch,hch⟩:∃ ch,rb[0]=ch:=⟨_,rfl⟩
        rw[hch] at HC0
        have E0:Hid (be ch=!(eI (bl rb)).1.isEmpty):=by
         show _=_;rw[HC0.out];unfold eI;simp only;cases hq:be ch<;>simp
        by_cases q1:97≤ch.toNat
        rotate_left
        ·have d2:decide ((97:Int)≤(ch.toNat:Int))=false:=dF (by omega)
         have d3:decide (97≤ch.toNat)=false:=dF q1
         have E:Hid (false=!(eI (bl rb)).1.isEmpty):=by show _=_;rw[←E0.out];unfold be;exact Eq.symm (dF (by omega))
         clear q1 E0
         go_wp2_with fail
         go_meet
         exact⟨false,rfl,E,rfl⟩
        have d2:decide ((97:Int)≤(ch.toNat:Int))=true:=dT (by omega)
        have d3:decide (97≤ch.toNat)=true:=dT q1
        by_cases q2:ch.toNat≤122
        rotate_left
        ·have d4:decide ((ch.toNat:Int)≤122)=false:=dF (by omega)
         have d5:decide (ch.toNat≤122)=false:=dF q2
         have E:Hid (false=!(eI (bl rb)).1.isEmpty):=by show _=_;rw[←E0.out];unfold be;exact Eq.symm (dF (by omega))
         clear q1 q2 E0
         go_wp2_with fail
         go_meet
         exact⟨false,rfl,E,rfl⟩
        have d4:decide ((ch.toNat:Int)≤122)=true:=dT (by omega)
        have d5:decide (ch.toNat≤122)=true:=dT q2
        have E:Hid (true=!(eI (bl rb)).1.isEmpty):=by show _=_;rw[←E0.out];unfold be;exact Eq.symm (dT (by omega))
        clear q1 q2 E0
        go_wp2_with fail
        go_meet
        exact⟨true,rfl,E,rfl⟩
      case rest=>
      obtain⟨bb,rfl,HBB,rfl⟩:=hcut
      go_upto_if 83 with(fail)
      go_cut [8] (fun sl wx=>∃ h' lt:BA,sl=.string h'∧Hid (bl h'=(eI (bl rb)).2)∧h'.size≤64∧Hid (bl lt=(eI (bl rb)).1)∧lt.size≤64∧Hid (xE w wx cb base (.slice A1 (n+1) c1) M [.int .i64 ep,.slice A1 (n+1) c1,.string lt,.string ⟨#[]⟩,.int .i64 0,.int .i64 0]))
      case first=>
       cases bb
       ·have L0:Hid ((eI (bl rb)).1=[]∧(eI (bl rb)).2=bl rb):=by
         have:=HBB.out;show _∧_
         revert this
         cases hq:bl rb with
         | nil=>intro _;exact⟨rfl,rfl⟩
         | cons a r=>unfold eI;simp only;cases be a<;>simp
        go_wp2_with fail
        go_meet
        exact⟨rb,⟨#[]⟩,rfl,L0.out.2.symm,rb64,by show _=_;rw[L0.out.1];rfl,by decide,F1⟩
       ·have h0:0<rb.size:=by
         apply Classical.byContradiction;intro h
         have:=HBB.out;rw[bj rb (by omega)] at this;revert this;decide
        have HC0:=ae (dZ rb h0)
        have L1:Hid ((eI (bl rb)).1=(bl rb).take 1∧(eI (bl rb)).2=(bl rb).drop 1):=by
         have:=HBB.out;show _∧_;rw[HC0.out] at this ⊢
         revert this;unfold eI;simp only;cases be rb[0]<;>simp
        have hx1:bl (rb.extract 0 1)=(bl rb).take 1:=bV _ _
        have hx2:bl (rb.extract 1 rb.size)=(bl rb).drop 1:=aX _ _
        have z1:(rb.extract 0 1).size≤64:=by have:=af (rb.extract 0 1);rw[hx1,List.length_take] at this;omega
        have z2:(rb.extract 1 rb.size).size≤64:=by have:=af (rb.extract 1 rb.size);rw[hx2,List.length_drop,af] at this;omega
        have E1:Hid (bl (rb.extract 1 rb.size)=(eI (bl rb)).2):=by show _=_;rw[L1.out.2,hx2]
        have E2:Hid (bl (rb.extract 0 1)=(eI (bl rb)).1):=by show _=_;rw[L1.out.1,hx1]
        have ri:(1:Int)≤(rb.size:Int):=by omega
        have k2:=F1.out.pc.box.cell 2 _ rfl
        have f2:=F1.out.pc.box.free 2 (by simp)
        have F2:=ae (F1.out.set 2 (by simp) (.string (rb.extract 0 1)))
        clear hx1 hx2
        go_wp2_with fail
        go_meet
        exact⟨_,_,rfl,E1,z2,E2,z1,F2⟩
      case rest=>
      obtain⟨h',lt,rfl,HH,hh64,HLT,hlt64,F2⟩:=hcut
      have HR3:Hid (nd fmt (bl s)=IX fmt ep M (bl lt) (iL (jj fmt) bu ([],0,bl h'))):=by show _=_;rw[HR2.out,HH.out,HLT.out]
      clear F1 HR2 HH HLT HBB
      go_upto_if 90 with(fail)
      go_cut [12,13] (fun a b wx=>a=.string (fa fmt)∧b=.string (gZ fmt)∧wc=wx)
      case first=>
       by_cases h3:fmt=3
       ·have q3:(fmt==3)=true:=by rw[h3];rfl
        have E:Hid ((⟨#[95]⟩:BA)=fa fmt∧(⟨#[45,114]⟩:BA)=gZ fmt):=by show _∧_;subst h3;exact⟨rfl,rfl⟩
        clear h3
        go_wp2_with fail
        go_meet
        exact⟨by rw[E.out.1],by rw[E.out.2],by trivial⟩
       ·have q3:(fmt==3)=false:=by simpa using h3
        have E:Hid ((⟨#[126]⟩:BA)=fa fmt∧(⟨#[45]⟩:BA)=gZ fmt):=by show _∧_;unfold fa jj gZ bK;rw[if_neg h3,if_neg h3];exact⟨rfl,rfl⟩
        clear h3
        go_wp2_with fail
        go_meet
        exact⟨by rw[E.out.1],by rw[E.out.2],by trivial⟩
      case rest=>
      obtain⟨rfl,rfl,rfl⟩:=hcut
      have hsg:Hid (bl (fa fmt)=[jj fmt]):=rfl
      have hds:Hid (bl (gZ fmt)=bK fmt):=gI _
      have sg1:(fa fmt).size=1:=rfl
      have ds2:(gZ fmt).size≤2:=by unfold gZ bK;split<;>decide
      generalize fa fmt=sg at *
      generalize gZ fmt=dsh at *
      obtain⟨nv,hnv⟩:∃ nv:Value,Value.slice A1 (n+1) c1=nv:=⟨_,rfl⟩
      go_wp2_with fail
      go_loopw [8,14] (fun s8 s14 wx=>∃ (k:Nat) (rx pw:BA) (pn:Nat),k≤4∧s8=.string rx∧s14=.int .i64 k∧rx.size≤64∧pw.size≤5∧Hid (pn≤999999999)∧Hid (iL (jj fmt) bu ([],0,bl h')=iL (jj fmt) (bu.drop k) (bl pw,pn,bl rx))∧Hid (xE w wx cb base (.slice A1 (n+1) c1) M [.int .i64 ep,.slice A1 (n+1) c1,.string lt,.string pw,.int .i64 pn,.int .i64 0])) (fun _ i _=>4-(intOf i).toNat)
      case atStart=>exact⟨0,h',⟨#[]⟩,0,by omega,rfl,rfl,hh64,by decide,by show _≤_;omega,rfl,F2⟩
      case round=>
       clear F2
       obtain⟨k,rx,pw,pn,hk,rfl,rfl,hrx,hpw,HPN,HPC,F3⟩:=hrel
       by_cases hlt:k<4
       ·have vs:(ci k).size≤5:=by rcases(by omega:k=0∨k=1∨k=2∨k=3) with rfl | rfl | rfl | rfl<;>decide
        have HPD:=ae (IZ k hlt)
        have HWD:=ae (fun W=>FP k hlt W)
        generalize ci k=wd at *
        have k3:=F3.out.pc.box.cell 3 _ rfl
        obtain⟨pb,hpb⟩:∃ pb,pw.toList.isEmpty=pb:=⟨_,rfl⟩
        have HPB:=ae hpb
        cases pb
        ·have E:Hid (iL (jj fmt) bu ([],0,bl h')=iL (jj fmt) (bu.drop (k+1)) (bl pw,pn,bl rx)):=by
          show _=_;rw[HPC.out,HPD.out,Bo];rintro⟨e,_⟩;have:=HPB.out;rw[ai,e] at this;cases this
         go_wp2_with fail
         go_roundw
         case rel=>exact⟨k+1,rx,pw,pn,by omega,rfl,by go_num,hrx,hpw,HPN,E,F3⟩
         case measure=>simp[intOf];omega
        ·have hp0:bl pw=[]:=by have:=HPB.out;rw[ai] at this;exact List.isEmpty_iff.1 this
         have HP0:=ae hp0
         have hsw:(sg++wd).size≤6:=by rw[FH];omega
         have HSW:Hid (bl (sg++wd)=jj fmt::bl wd):=by show _=_;rw[bg,hsg.out];rfl
         clear hp0
         cases hbg:eQ (bl rx) (bl (sg++wd))
         ·have HBG:=ae (fun W=>kp rx (sg++wd) false W (by omega) (by omega) hbg)
          have E:Hid (iL (jj fmt) bu ([],0,bl h')=iL (jj fmt) (bu.drop (k+1)) (bl pw,pn,bl rx)):=by
                 show _=_;rw[HPC.out,HPD.out,Bo];rintro⟨_,e⟩;rw[←HSW.out,hbg] at e;cases e
          clear hbg
          go_wp2_with fail
          refine(HWD.out _).mono ?_;rintro e w3 ⟨rfl,hb3⟩
          have F4:=ae (F3.out.step hb3)
          clear hb3
          go_wp2_with fail
          refine(HBG.out _).mono ?_;rintro e w' ⟨rfl,rfl⟩
          go_wp2_with fail
          go_roundw
          case rel=>exact⟨k+1,rx,pw,pn,by omega,rfl,by go_num,hrx,hpw,HPN,E,F4⟩
          case measure=>simp[intOf];omega
         ·have HBG:=ae (fun W=>kp rx (sg++wd) true W (by omega) (by omega) hbg)
          have hbl:=rR _ _ hbg
          rw[af,af,FH] at hbl
          have HB2:Hid (eQ (bl rx) (jj fmt::bl wd)=true):=by show _=_;rw[←HSW.out];exact hbg
          have hbi:(sg.size:Int)+(wd.size:Int)≤(rx.size:Int):=by omega
          have hcw:((sg.size:Int)+(wd.size:Int))=((sg.size+wd.size:Nat):Int):=by omega
          have iw:IntKind.i64.wrap ((sg.size:Int)+(wd.size:Int))=((sg.size+wd.size:Nat):Int):=by rw[IntWalk.i64_in _ (by omega)];omega
          clear hbg
          go_wp2_with fail
          refine(HWD.out _).mono ?_;rintro e w3 ⟨rfl,hb3⟩
          have F4:=ae (F3.out.step hb3)
          clear hb3 k3
          go_wp2_with fail
          refine(HBG.out _).mono ?_;rintro e w' ⟨rfl,rfl⟩
          go_wp2_with fail
          refine(HWD.out _).mono ?_;rintro e w4 ⟨rfl,hb4⟩
          have F5:=ae (F4.out.step hb4)
          clear hb4 F4
          have k3:=F5.out.pc.box.cell 3 _ rfl
          have f3:=F5.out.pc.box.free 3 (by simp)
          have F6:Hid (xE w (w4.setCell ⟨cb,3,none⟩ (.string wd)) cb base (.slice A1 (n+1) c1) M [.int .i64 ep,.slice A1 (n+1) c1,.string lt,.string wd,.int .i64 pn,.int .i64 0]):=F5.out.set 3 (by simp) (.string wd)
          go_wp2_with fail
          have hxR:bl (rx.extract (1+wd.size) rx.size)=(bl rx).drop (1+(bl wd).length):=by rw[aX,af]
          have hxz:(rx.extract (1+wd.size) rx.size).size≤64:=by have:=af (rx.extract (1+wd.size) rx.size);rw[hxR,List.length_drop,af] at this;omega
          have HXR:=ae hxR
          clear hxR k3 f3 F5 hcw iw hbi hbl
          generalize w4.setCell ⟨cb,3,none⟩ (.string wd)=W5 at *
          generalize rx.extract (1+wd.size) rx.size=R at *
          cases ht:dL (bl R) with
          | none=>
                 have HT:=ae (fun W=>vv R W (by omega) ht)
                 have E:Hid (dN fmt s=11):=HNO.out (by rw[HR3.out,HPC.out,HPD.out,Pm ⟨HP0.out,HB2.out⟩ (by rw[←HXR.out];exact ht)];rfl)
                 clear ht
                 refine(HT.out _).mono ?_;rintro e w5 ⟨rfl,hb5⟩
                 have F7:=ae ((F6.out.step hb5).step (bR.alloc lr (.cells #[.int .i64 0,.string ⟨#[]⟩,.bool false] 139)))
                 clear hb5
                 obtain⟨r0,r1,r2,r3,r4,r5,f0,f1,f2,f3,f4,f5⟩:=jo F7.out.pc.res
                 go_wp2_with fail
                 refine bodyPost_ret (lH F7.out.pc.res rfl rfl 0 none 0 0 _ _ 0 0) rfl ?_
                 exact iB E.out F7.out.pc.bel
          | some y=>
                 obtain⟨m2,r2⟩:=y
                 have HT:=ae (fun W=>rU R W (by omega) ht)
                 have hml:=oF ht
                 have HM2:Hid (m2≤999999999):=hml.2
                 have E:Hid (iL (jj fmt) bu ([],0,bl h')=iL (jj fmt) (bu.drop (k+1)) (bl wd,m2,r2)):=by show _=_;rw[HPC.out,HPD.out,Mr ⟨HP0.out,HB2.out⟩ (by rw[←HXR.out];exact ht)]
                 obtain⟨rb2,hrb2⟩:∃ rb2,bz r2=rb2:=⟨_,rfl⟩
                 have hbr2:Hid (bl rb2=r2):=by show _=_;rw[←hrb2,cH]
                 have hrz2:rb2.size≤64:=by have:=af rb2;have h2:=hml.1;rw[hbr2.out] at this;rw[af] at h2;omega
                 rw[hrb2] at HT
                 clear ht hrb2 hml
                 refine(HT.out _).mono ?_;rintro e w5 ⟨rfl,hb5⟩
                 have F7:=ae (F6.out.step hb5)
                 obtain⟨W6,hW6⟩:∃ W6,w5.alloc (.cells #[.int .i64 m2,.string rb2,.bool true] 139)=W6:=⟨_,rfl⟩
                 have B6:Hid (Below w5.heap.size w5 W6):=by rw[←hW6];exact bR.alloc lr _
                 have G6:Hid (aF W6 w5.heap.size [.int .i64 m2,.string rb2,.bool true]):=by show aF _ _ _;rw[←hW6];exact aF.new w5 [.int .i64 m2,.string rb2,.bool true] _
                 have F8:=ae (F7.out.step B6.out)
                 have hne:¬ cb=w5.heap.size:=by have:=F7.out.pc.box.sz;omega
                 have hne2:¬ w5.heap.size=cb:=by omega
                 have g0:=G6.out.cell 0 _ rfl
                 have g1:=G6.out.cell 1 _ rfl
                 have g2:=G6.out.cell 2 _ rfl
                 have k4:=F8.out.pc.box.cell 4 _ rfl
                 have f4:=F8.out.pc.box.free 4 (by simp)
                 have F9:=ae (F8.out.set 4 (by simp) (.int .i64 m2))
                 have HW6:=ae hW6
                 clear hb5 hW6 F6 F7
                 go_upto_region 35 with(fail)
                 rw[HW6.out]
                 go_wp2_with fail
                 go_roundw
                 case rel=>exact⟨k+1,rb2,wd,m2,by omega,rfl,by go_num,hrz2,by omega,HM2,by rw[hbr2.out];exact E,F9⟩
                 case measure=>simp[intOf];omega
       ·obtain rfl:k=4:=by omega
        have HR4:Hid (nd fmt (bl s)=IX fmt ep M (bl lt) (some (bl pw,pn,bl rx))):=by show _=_;rw[HR3.out,HPC.out];rfl
        clear HR3 HPC
        cases hbg:eQ (bl rx) (bl dsh)
        ·have HBG:=ae (fun W=>kp rx dsh false W (by omega) (by omega) hbg)
         have E:Hid (dN fmt s=11):=HNO.out (by rw[HR4.out];unfold IX;simp only;rw[←hds.out,hbg];rfl)
         clear hbg
         obtain⟨r0,r1,r2,r3,r4,r5,f0,f1,f2,f3,f4,f5⟩:=jo F3.out.pc.res
         go_wp2_with fail
         refine(HBG.out _).mono ?_;rintro e w' ⟨rfl,rfl⟩
         go_wp2_with fail
         refine bodyPost_ret (lH F3.out.pc.res rfl rfl 0 none 0 0 _ _ 0 0) rfl ?_
         exact iB E.out F3.out.pc.bel
        ·have HBG:=ae (fun W=>kp rx dsh true W (by omega) (by omega) hbg)
         have hbl:=rR _ _ hbg
         rw[af,af] at hbl
         have HB2:=ae hbg
         have hbi:(dsh.size:Int)≤(rx.size:Int):=by omega
         have hxR:bl (rx.extract dsh.size rx.size)=(bl rx).drop (bK fmt).length:=by rw[aX,←hds.out,af]
         have hxz:(rx.extract dsh.size rx.size).size≤64:=by have:=af (rx.extract dsh.size rx.size);rw[hxR,List.length_drop,af] at this;omega
         have HXR:=ae hxR
         have HR5:Hid (nd fmt (bl s)=UC (dL (bl (rx.extract dsh.size rx.size))) (fun rev=>⟨ep,M,bl lt,bl pw,pn,rev⟩)):=by
          show _=_;rw[HR4.out,HXR.out,Pj (by rw[←hds.out];exact hbg)]
         clear hbg hxR
         go_wp2_with fail
         refine(HBG.out _).mono ?_;rintro e w' ⟨rfl,rfl⟩
         go_wp2_with fail
         generalize rx.extract dsh.size rx.size=R at *
         cases ht:dL (bl R) with
         | none=>
          have HT:=ae (fun W=>vv R W (by omega) ht)
          have E:Hid (dN fmt s=11):=HNO.out (by rw[HR5.out,ht];rfl)
          clear ht
          refine(HT.out _).mono ?_;rintro e w5 ⟨rfl,hb5⟩
          have F7:=ae ((F3.out.step hb5).step (bR.alloc lr (.cells #[.int .i64 0,.string ⟨#[]⟩,.bool false] 139)))
          clear hb5
          obtain⟨r0,r1,r2,r3,r4,r5,f0,f1,f2,f3,f4,f5⟩:=jo F7.out.pc.res
          go_wp2_with fail
          refine bodyPost_ret (lH F7.out.pc.res rfl rfl 0 none 0 0 _ _ 0 0) rfl ?_
          exact iB E.out F7.out.pc.bel
         | some y=>
          obtain⟨rv,r2⟩:=y
          have HT:=ae (fun W=>rU R W (by omega) ht)
          have HRV:Hid (rv≤999999999):=(oF ht).2
          obtain⟨rb2,hrb2⟩:∃ rb2,bz r2=rb2:=⟨_,rfl⟩
          have hbr2:Hid (bl rb2=r2):=by show _=_;rw[←hrb2,cH]
          rw[hrb2] at HT
          have HTK:=ae ht
          clear ht hrb2
          obtain⟨eb,heb⟩:∃ eb,rb2.toList.isEmpty=eb:=⟨_,rfl⟩
          have HEB:Hid (r2.isEmpty=eb):=by show _=_;rw[←hbr2.out,←ai];exact heb
          refine(HT.out _).mono ?_;rintro e w5 ⟨rfl,hb5⟩
          have F7:=ae (F3.out.step hb5)
          obtain⟨W6,hW6⟩:∃ W6,w5.alloc (.cells #[.int .i64 rv,.string rb2,.bool true] 139)=W6:=⟨_,rfl⟩
          have B6:Hid (Below w5.heap.size w5 W6):=by rw[←hW6];exact bR.alloc lr _
          have G6:Hid (aF W6 w5.heap.size [.int .i64 rv,.string rb2,.bool true]):=by show aF _ _ _;rw[←hW6];exact aF.new w5 [.int .i64 rv,.string rb2,.bool true] _
          have F8:=ae (F7.out.step B6.out)
          have hne:¬ cb=w5.heap.size:=by have:=F7.out.pc.box.sz;omega
          have hne2:¬ w5.heap.size=cb:=by omega
          have g0:=G6.out.cell 0 _ rfl
          have g1:=G6.out.cell 1 _ rfl
          have g2:=G6.out.cell 2 _ rfl
          have HW6:=ae hW6
          clear hb5 hW6
          go_upto_region 42 with(fail)
          rw[HW6.out]
          cases eb
          ·have E:Hid (dN fmt s=11):=HNO.out (by
            rw[HR5.out,HTK.out]
            have:=HEB.out
            cases r2 with
            | nil=>cases this
            | cons a q=>rfl)
           obtain⟨r0,r1,r2,r3,r4,r5,f0,f1,f2,f3,f4,f5⟩:=jo F8.out.pc.res
           go_wp2_with fail
           refine bodyPost_ret (lH F8.out.pc.res rfl rfl 0 none 0 0 _ _ 0 0) rfl ?_
           exact iB E.out F8.out.pc.bel
          ·have HRF:Hid (nd fmt (bl s)=some ⟨ep,M,bl lt,bl pw,pn,rv⟩):=by
            show _=_;rw[HR5.out,HTK.out,show r2=[] from List.isEmpty_iff.1 HEB.out];rfl
           clear HR5 HTK HEB
           have k5:=F8.out.pc.box.cell 5 _ rfl
           have f5:=F8.out.pc.box.free 5 (by simp)
           have F9:Hid (xE w (W6.setCell ⟨cb,5,none⟩ (.int .i64 rv)) cb base (.slice A1 M.length c1) M [.int .i64 ep,.slice A1 M.length c1,.string lt,.string pw,.int .i64 pn,.int .i64 rv]):=by
            have:=F8.out.set 5 (by simp) (.int .i64 rv);rw[←LL.out] at this;exact this
           go_upto_region 45 with(fail)
           clear k5 f5 g0 g1 g2
           generalize W6.setCell ⟨cb,5,none⟩ (.int .i64 rv)=W7 at *
           have k0:=F9.out.pc.box.cell 0 _ rfl
           have k1:=F9.out.pc.box.cell 1 _ rfl
           have k2:=F9.out.pc.box.cell 2 _ rfl
           have k3:=F9.out.pc.box.cell 3 _ rfl
           have k4:=F9.out.pc.box.cell 4 _ rfl
           have k5:=F9.out.pc.box.cell 5 _ rfl
           have FEW:Hid ((⟨ep,A1,c1,M,lt,pw,pn,rv⟩:bG).few):=⟨by have:=HEP.out;show ep≤_;omega,fun x hx=>by have:=L1.out x hx;omega,by show M.length≤1000;have:=LL.out;omega,by show lt.size≤1000;omega,by show pw.size≤1000;omega,by have:=HPN.out;show pn≤_;omega,by have:=HRV.out;show rv≤_;omega⟩
           go_wp2_with fail
           refine(Bn fmt HFM.out ⟨ep,A1,c1,M,lt,pw,pn,rv⟩ _ (bA F9.out.own) FEW.out).mono ?_;rintro e w7 ⟨rfl,hb7⟩
           have P7:=ae (F9.out.pc.step hb7)
           have O7:=ae (aR F9.out.own hb7)
           clear k0 k1 k2 k3 k4 k5 hb7
           obtain⟨r0,r1,r2,r3,r4,r5,f0,f1,f2,f3,f4,f5⟩:=jo P7.out.res
           have HC:Hid ((⟨ep,A1,c1,M,lt,pw,pn,rv⟩:bG).plain=⟨ep,M,bl lt,bl pw,pn,rv⟩):=rfl
           cases hpb2:ct fmt (⟨ep,A1,c1,M,lt,pw,pn,rv⟩:bG).plain
           ·have E:Hid (dN fmt s=11):=HBAD.out _ HRF.out (by unfold fits;rw[←HC.out,hpb2];rfl)
            rw[nI hpb2]
            clear hpb2
            go_wp2_with fail
            refine bodyPost_ret (lH P7.out.res rfl rfl 0 none 0 0 _ _ 0 0) rfl ?_
            exact iB E.out P7.out.bel
           ·rw[rI hpb2]
            have HPB2:=ae hpb2
            clear hpb2
            obtain⟨T,hT⟩:∃ T:BA,(⟨(aN fmt (⟨ep,A1,c1,M,lt,pw,pn,rv⟩:bG).plain).toArray⟩:BA)=T:=⟨_,rfl⟩
            have hTB:Hid (aN fmt (⟨ep,A1,c1,M,lt,pw,pn,rv⟩:bG).plain=bl T):=by show _=_;rw[←hT,gI]
            rw[hT]
            clear hT
            obtain⟨tb,htb⟩:∃ tb,(T.toList==s.toList)=tb:=⟨_,rfl⟩
            have HTB:=ae htb
            cases tb
            ·have E:Hid (dN fmt s=11):=HBAD.out _ HRF.out (by
              unfold fits;rw[←HC.out,HPB2.out,hTB.out]
              have:¬ bl T=bl s:=by intro h;have h2:=HTB.out;rw[fZ] at h2;exact of_decide_eq_false h2 (dp h)
              rw[dF this];rfl)
             go_wp2_with fail
             refine bodyPost_ret (lH P7.out.res rfl rfl 0 none 0 0 _ _ 0 0) rfl ?_
             exact iB E.out P7.out.bel
            ·have E:=ae (HYES.out _ HRF.out (by
              unfold fits;rw[←HC.out,HPB2.out,hTB.out]
              have:bl T=bl s:=by have h2:=HTB.out;rw[fZ] at h2;rw[dO h2]
              rw[dT this];rfl))
             have k0:=P7.out.box.cell 0 _ rfl
             have k1:=P7.out.box.cell 1 _ rfl
             have k2:=P7.out.box.cell 2 _ rfl
             have k3:=P7.out.box.cell 3 _ rfl
             have k4:=P7.out.box.cell 4 _ rfl
             have k5:=P7.out.box.cell 5 _ rfl
             go_wp2_with fail
             refine bodyPost_ret (lH P7.out.res rfl rfl ep A1 M.length c1 lt pw pn rv) rfl ?_
             refine⟨⟨ep,A1,c1,M,lt,pw,pn,rv⟩,by rw[E.out.1];rfl,?_,FEW.out,(fun _=>by rw[E.out.2,HC.out]),iu P7.out.bel _ _ _ _ _ _⟩
             refine bA (O7.out.kept (xu w7 w.heap.size _ _ _ _ _ _) ?_)
             cases hq:(Value.slice A1 M.length c1).ownBlock with
             | none=>exact .inl rfl
             | some g=>right;intro he;injection he with he;have:=(O7.out.lt g hq).1;omega
theorem pN (a b:Int)(s:BA)(w:World)(hs:s.size≤9223372036854775807):
  Calls Tryz.prog 32 #[.int .i64 a,.int .i64 b,.string s] w fun e w'=>e=.returned (jN (trans a b s))∧Below w.heap.size w w':=by
 by_cases hk:¬ dk a∨¬ dk b
 ·have E:=ae (tq (a:=a) (b:=b) s hk)
  unfold dk at hk
  by_cases a1:a<1
  ·have d1:decide (a<1)=true:=dT a1
   clear hk
   go_enter Tryz.func32,Tryz.ntmps32
   go_wp2_with fail
   go_ret2
   exact⟨by rw[E.out];rfl,bR⟩
  have d1:decide (a<1)=false:=dF a1
  by_cases a3:3<a
  ·have d2:decide (3<a)=true:=dT a3
   clear hk
   go_enter Tryz.func32,Tryz.ntmps32
   go_wp2_with fail
   go_ret2
   exact⟨by rw[E.out];rfl,bR⟩
  have d2:decide (3<a)=false:=dF a3
  by_cases b1:b<1
  ·have d3:decide (b<1)=true:=dT b1
   clear hk
   go_enter Tryz.func32,Tryz.ntmps32
   go_wp2_with fail
   go_ret2
   exact⟨by rw[E.out];rfl,bR⟩
  have d3:decide (b<1)=false:=dF b1
  have b3:3<b:=by omega
  have d4:decide (3<b)=true:=dT b3
  clear hk
  go_enter Tryz.func32,Tryz.ntmps32
  go_wp2_with fail
  go_ret2
  exact⟨by rw[E.out];rfl,bR⟩
 have ha:dk a:=Decidable.not_not.1 (fun h=>hk (.inl h))
 have hb:dk b:=Decidable.not_not.1 (fun h=>hk (.inr h))
 have d1:decide (a<1)=false:=dF (by unfold dk at ha;omega)
 have d2:decide (3<a)=false:=dF (by unfold dk at ha;omega)
 have d3:decide (b<1)=false:=dF (by unfold dk at hb;omega)
 have d4:decide (3<b)=false:=dF (by unfold dk at hb;omega)
 have HA:=ae ha;have HB:=ae hb
 clear hk ha hb
 go_enter Tryz.func32,Tryz.ntmps32
 go_wp2_with fail
 refine(Nn a HA.out s _ hs).mono ?_;rintro e w1 ⟨cl,rfl,hok,hfew,hpc,hb1⟩
 have HO:=ae hok;have HF:=ae hfew;have HPC:=ae hpc;have B1:=ae hb1
 clear hok hfew hpc hb1
 unfold bG.val
 have B2:Hid (Below w1.heap.size w1 (w1.alloc (.cells #[.int .i64 cl.ep,.slice cl.na cl.nums.length cl.nc,.string cl.lt,.string cl.pre,.int .i64 cl.pnum,.int .i64 cl.rev] 95))):=bR.alloc lr _
 by_cases hz:¬ dN a s=0
 ·have E:=ae (Bg HA.out HB.out hz)
  have q:(dN a s != 0)=true:=by simpa [bne] using hz
  generalize dN a s=pe at *
  clear hz
  go_wp2_with fail
  go_ret2
  exact⟨by rw[E.out];rfl,ah B1.out B2.out⟩
 ·have hz0:dN a s=0:=Decidable.not_not.1 hz
  have E:=ae (FI HA.out HB.out hz0 (HPC.out hz0))
  have q:(dN a s != 0)=false:=by rw[hz0];rfl
  generalize dN a s=pe at *
  clear hz hz0 HPC
  obtain⟨W2,hW2⟩:∃ W2,w1.alloc (.cells #[.int .i64 cl.ep,.slice cl.na cl.nums.length cl.nc,.string cl.lt,.string cl.pre,.int .i64 cl.pnum,.int .i64 cl.rev] 95)=W2:=⟨_,rfl⟩
  have K2:Hid (aF W2 w1.heap.size cl.cells):=by show aF _ _ _;rw[←hW2];exact aF.new w1 cl.cells _
  rw[hW2] at B2
  have k0:=K2.out.cell 0 _ rfl
  have k1:=K2.out.cell 1 _ rfl
  have k2:=K2.out.cell 2 _ rfl
  have k3:=K2.out.cell 3 _ rfl
  have k4:=K2.out.cell 4 _ rfl
  have k5:=K2.out.cell 5 _ rfl
  go_wp2_with fail
  refine(Bn b HB.out cl W2 (Rd.below HO.out B2.out) HF.out).mono ?_;rintro e w3 ⟨rfl,hb3⟩
  have B3:=ae (ah (ah B1.out B2.out) hb3)
  clear hb3 k0 k1 k2 k3 k4 k5 hW2
  obtain⟨⟨r1,r2⟩,hr⟩:∃ r,qi b cl.plain=r:=⟨_,rfl⟩
  rw[hr] at E
  rw[hr]
  clear hr
  unfold jN
  go_wp2_with fail
  go_ret2
  exact⟨by rw[E.out];rfl,B3.out⟩
theorem No {x:bW}(h1:bo (bl x.nm)=true)(h2:∀ g∈x.gives,bo (bl g.nm)=true):gg x.nm x.gives=true:=by
 unfold gg;rw[h1,Bool.true_and,List.all_eq_true];exact h2
theorem Np {a b:Int}{g:aA}(h:(trans a b g.ver).2≠0):iy a b g≠0:=by
 unfold iy
 by_cases e:g.op≠3
 ·rw[if_pos e];decide
 ·rw[if_neg e,if_pos h];decide
theorem Nq (a b:Int)(A:Option Addr)(c:Nat)(l:List aB)(w:World)(hs:kF w A l)(hf:xF l):
  Calls Tryz.prog 13 #[.int .i64 a,.int .i64 b,.slice A l.length c] w (sQ a b (l.map aB.plain) w):=by
 obtain⟨i0,hi,hz0,hz1,hz2⟩:=info_parts Bp
 obtain⟨i1,hj,hy0,hy1,hy2⟩:=info_parts mg
 have HS:=ae hs;have HF:=ae hf
 have hll:=hf.len
 clear hs hf
 by_cases hk:¬ dk a∨¬ dk b
 ·have E:=ae (qz (l:=l.map aB.plain) hk)
  unfold dk at hk
  by_cases a1:a<1
  ·have d1:decide (a<1)=true:=dT a1
   clear hk
   go_enter Tryz.func13,Tryz.ntmps13
   go_wp2_with fail
   go_ret2
   exact dY E.out bR
  have d1:decide (a<1)=false:=dF a1
  by_cases a3:3<a
  ·have d2:decide (3<a)=true:=dT a3
   clear hk
   go_enter Tryz.func13,Tryz.ntmps13
   go_wp2_with fail
   go_ret2
   exact dY E.out bR
  have d2:decide (3<a)=false:=dF a3
  by_cases b1:b<1
  ·have d3:decide (b<1)=true:=dT b1
   clear hk
   go_enter Tryz.func13,Tryz.ntmps13
   go_wp2_with fail
   go_ret2
   exact dY E.out bR
  have d3:decide (b<1)=false:=dF b1
  have b3:3<b:=by omega
  have d4:decide (3<b)=true:=dT b3
  clear hk
  go_enter Tryz.func13,Tryz.ntmps13
  go_wp2_with fail
  go_ret2
  exact dY E.out bR
 have ha:dk a:=Decidable.not_not.1 (fun h=>hk (.inl h))
 have hb:dk b:=Decidable.not_not.1 (fun h=>hk (.inr h))
 have d1:decide (a<1)=false:=dF (by unfold dk at ha;omega)
 have d2:decide (3<a)=false:=dF (by unfold dk at ha;omega)
 have d3:decide (b<1)=false:=dF (by unfold dk at hb;omega)
 have d4:decide (3<b)=false:=dF (by unfold dk at hb;omega)
 have HA:=ae ha;have HB:=ae hb
 clear hk ha hb
 go_enter Tryz.func13,Tryz.ntmps13
 go_wp2_with fail
 clear d1 d2 d3 d4
 go_loopw [8,9] (fun s8 s9 wr=>∃ (k:Nat) (O:Option Addr) (n oc:Nat) (out:List aB),s8=.slice O n oc∧s9=.int .i64 k∧k≤l.length∧n≤l.length∧n≤k∧Hid (∀ y∈l.take k,eA a b y.plain=0)∧Hid (out.map aB.plain=(l.take k).map fun y=>dG a b y.plain)∧Hid (Hs w wr out O n oc)) (fun _ i _=>l.length-(intOf i).toNat)
 case atStart=>exact⟨0,none,0,0,[],rfl,rfl,z0,z0,z0,by simp[Hid],rfl,Hs.start w⟩
 case round=>
  obtain⟨k,O,n,oc,out,rfl,rfl,hk,hn,hnk,HN,HO,M0⟩:=hrel
  by_cases hlt:k<l.length
  ·obtain⟨x,hx⟩:∃ x,l[k]?=some x:=⟨_,gG hlt⟩
   have hm:=gM hx
   obtain⟨bk,off,hA,he⟩:=(HS.out.row.below M0.out.bel).elem lQ k x hx
   have e0:=he 0 _ rfl
   have e1:=he 1 _ rfl
   have e2:=he 2 _ rfl
   simp only[Nat.add_zero] at e0
   have hix:=fun W=>aH (T:=36) (E:=48) (sz:=3) (c:=c) Tryz.underlying36 rfl Tryz.sizeOf48 hA hlt W
   have HX:=ae hx
   have zn:=HF.out.nm x hm;have zv:=HF.out.ver x hm;have zg:=HF.out.gv x hm
   have ZGN:=ae (HF.out.gnm x hm);have ZGV:=ae (HF.out.gver x hm)
   have HGR:=ae (HS.out.all x hm)
   clear hx hA he hm
   obtain⟨wo,rfl⟩:∃ wo:World,wo=wr:=⟨_,rfl⟩
   obtain⟨W0,hW0⟩:∃ W0,wo.alloc (.cells #[.string x.nm,.string x.ver,.slice x.ga x.gives.length x.gc] 48)=W0:=⟨_,rfl⟩
   have B0:Hid (Below wo.heap.size wo W0):=by rw[←hW0];exact bR.alloc lr _
   have K0:Hid (aF W0 wo.heap.size x.cells):=by show aF _ _ _;rw[←hW0];exact aF.new wo x.cells _
   have k0:=K0.out.cell 0 _ rfl
   have k1:=K0.out.cell 1 _ rfl
   have k2:=K0.out.cell 2 _ rfl
   have HNM:=ae fun W=>Fo x.nm W (by omega)
   cases hnm:bo (bl x.nm)
   ·rw[hnm] at HNM
    have E:=ae (fS HA.out HB.out HX.out HN.out (Bq hnm) (by decide))
    clear hnm
    go_wp2_with fail
    refine(HNM.out _).mono ?_;rintro e w' ⟨rfl,rfl⟩
    go_wp2_with fail
    go_ret2
    exact dY E.out (ah M0.out.bel B0.out)
   rw[hnm] at HNM
   have HNX:=ae hnm
   clear hnm
   go_wp2_with fail
   clear hW0 e0 e1 e2 hix
   refine(HNM.out _).mono ?_;rintro e w' ⟨rfl,rfl⟩
   go_wp2_with fail
   go_loopw [11] (fun i wx=>∃ j:Nat,j≤x.gives.length∧i=.int .i64 j∧Hid (∀ g∈x.gives.take j,bo (bl g.nm)=true)∧wx=W0) (fun i _=>x.gives.length-(intOf i).toNat)
   case atStart=>exact⟨0,z0,rfl,by simp[Hid],by trivial⟩
   case round=>
    obtain⟨j,hj',rfl,HE,rfl⟩:=hrel
    by_cases hlt4:j<x.gives.length
    ·obtain⟨g,hg⟩:∃ g,x.gives[j]?=some g:=⟨_,gG hlt4⟩
     have hgm:=gM hg
     obtain⟨b2,off2,hA2,he2⟩:=(HGR.out.below (ah M0.out.bel B0.out)).elem dw j g hg
     have e0:=he2 0 _ rfl
     simp only[Nat.add_zero] at e0
     have hix2:=fun W=>aH (T:=31) (E:=53) (sz:=3) (c:=x.gc) Tryz.underlying31 rfl Tryz.sizeOf53 hA2 hlt4 W
     have HGT:=ae (aS hg)
     have hgn:=ZGN.out g hgm
     have HGM:=ae hgm
     have HNG:=ae fun W=>Fo g.nm W (by omega)
     clear hg hA2 he2 hgm
     cases hdn:bo (bl g.nm)
     ·rw[hdn] at HNG
      have E:=ae (fS HA.out HB.out HX.out HN.out (xH (x:=x.plain) HGM.out hdn) (by decide))
      clear hdn
      go_wp2_with fail
      refine(HNG.out _).mono ?_;rintro e w' ⟨rfl,rfl⟩
      go_wp2_with fail
      go_ret2
      exact dY E.out (ah M0.out.bel B0.out)
     ·rw[hdn] at HNG
      have HDN:=ae hdn
      clear hdn
      go_wp2_with fail
      refine(HNG.out _).mono ?_;rintro e w' ⟨rfl,rfl⟩
      go_wp2_with fail
      go_roundw
      case rel=>exact⟨j+1,by omega,by go_num,ae (fun y hy=>by
       rw[HGT.out] at hy
       rcases List.mem_append.1 hy with hy | hy
       ·exact HE.out y hy
       ·rw[List.mem_singleton.1 hy];exact HDN.out),by trivial⟩
      case measure=>simp[intOf];omega
    ·have HDA:Hid (∀ g∈x.gives,bo (bl g.nm)=true):=fun g hg=>HE.out g (by rw[tL (by omega)];exact hg)
     have HNS:Hid (gg x.plain.nm x.plain.gives=true):=No HNX.out HDA.out
     obtain⟨⟨t,cd⟩,ht⟩:∃ r,trans a b x.ver=r:=⟨_,rfl⟩
     have HT:=ae ht
     have HTR:=ae (fun W=>pN a b x.ver W (by omega))
     rw[ht] at HTR
     unfold jN at HTR
     clear ht
     go_wp2_with fail
     clear hlt4
     refine(HTR.out _).mono ?_;rintro e w2 ⟨rfl,hb2⟩
     have B2:=ae (ah B0.out hb2);have K2:=ae (K0.out.below hb2)
     clear hb2 k0 k1 k2 B0 K0
     by_cases hcd:cd≠0
     ·have E:=ae (fS HA.out HB.out HX.out HN.out (Ga (a:=a) (b:=b) HNS.out (by rw[show trans a b x.plain.ver=(t,cd) from HT.out];exact hcd)) (by decide))
      have q:(cd != 0)=true:=by simpa [bne] using hcd
      clear hcd
      go_wp2_with fail
      go_ret2
      exact dY E.out (ah M0.out.bel B2.out)
     have hcd0:cd=0:=Decidable.not_not.1 hcd
     have q:(cd != 0)=false:=by rw[hcd0];rfl
     have HT0:Hid ((trans a b x.plain.ver).2=0):=by show _=_;rw[show trans a b x.plain.ver=(t,cd) from HT.out];exact hcd0
     clear hcd hcd0
     have k0:=K2.out.cell 0 _ rfl
     have k2:=K2.out.cell 2 _ rfl
     obtain⟨tv,htv⟩:∃ tv:BA,(⟨t.toArray⟩:BA)=tv:=⟨_,rfl⟩
     have HTV:Hid ((⟨(trans a b x.plain.ver).1.toArray⟩:BA)=tv):=by show _=_;rw[show trans a b x.plain.ver=(t,cd) from HT.out];exact htv
     rw[htv]
     clear htv HT
     obtain⟨W3,hW3⟩:∃ W3,w2.alloc (.cells #[.string x.nm,.string tv,.slice none 0 0] 48)=W3:=⟨_,rfl⟩
     have B23:Hid (Below w2.heap.size w2 W3):=by rw[←hW3];exact bR.alloc lr _
     have I0:Hid (Ki wo W3 w2.heap.size (w2.heap.size+1) x.nm tv none 0 0 [] x.cells):=by
      have hsz:W3.heap.size=w2.heap.size+1:=by rw[←hW3];simp
      refine⟨ah B2.out B23.out,K2.out.below B23.out,?_,World.ownsRow_nil _ _ _ _,rfl,K2.out.sz,Nat.lt_succ_self _,by omega⟩
      rw[←hW3];exact aF.new w2 [.string x.nm,.string tv,.slice none 0 0] _
     have hqb:=ae I0.out.lo
     have HW3:=ae hW3
     clear hW3
     go_upto_region 19 with(fail)
     rw[HW3.out]
     clear HW3
     go_wp2_with fail
     clear k0 k2 B2 K2 B23
     generalize w2.heap.size=qb at *
     have hq1:wo.heap.size<qb:=hqb.out
     have hq2:¬ wo.heap.size=qb:=by omega
     have hq3:¬ qb=wo.heap.size:=by omega
     go_loopw [15] (fun i wx=>∃ (j cc:Nat) (G:Option Addr),j≤x.gives.length∧i=.int .i64 j∧Hid (∀ g∈x.gives.take j,iy a b g=0)∧Hid (Ki wo wx qb (qb+1) x.nm tv G j cc ((x.gives.take j).map (iM a b)) x.cells)) (fun i _=>x.gives.length-(intOf i).toNat)
     case atStart=>exact⟨0,0,none,z0,rfl,by simp[Hid],I0⟩
     case round=>
      clear I0
      obtain⟨j,cc,G,hj',rfl,HE,IS⟩:=hrel
      have p2:=IS.out.old.cell 2 _ rfl
      by_cases hlt4:j<x.gives.length
      ·obtain⟨g,hg⟩:∃ g,x.gives[j]?=some g:=⟨_,gG hlt4⟩
       have hgm:=gM hg
       have HRD:=ae (HGR.out.below (ah M0.out.bel IS.out.bel))
       obtain⟨b2,off2,hA2,he2⟩:=HRD.out.elem dw j g hg
       have e0:=he2 0 _ rfl
       have e1:=he2 1 _ rfl
       have e2:=he2 2 _ rfl
       simp only[Nat.add_zero] at e0
       have hix2:=fun W=>aH (T:=31) (E:=53) (sz:=3) (c:=x.gc) Tryz.underlying31 rfl Tryz.sizeOf53 hA2 hlt4 W
       have HGT:=ae (aS hg)
       have HGM:=ae hgm
       have HGG:=ae hg
       have hgn:=ZGN.out g hgm;have hgv:=ZGV.out g hgm
       obtain⟨⟨t2,cd2⟩,ht⟩:∃ r,trans a b g.ver=r:=⟨_,rfl⟩
       have HT2:=ae ht
       have HTR2:=ae (fun W=>pN a b g.ver W (by omega))
       rw[ht] at HTR2
       unfold jN at HTR2
       clear hg hA2 he2 hgm ht
       go_wp2_with fail
       refine(HTR2.out _).mono ?_;rintro e w5 ⟨rfl,hb5⟩
       have I5:=ae (IS.out.step hb5)
       have HRD5:=ae (HRD.out.below hb5)
       clear hb5 e0 e1 e2 p2 HRD
       have p2:=I5.out.old.cell 2 _ rfl
       obtain⟨b3,off3,hA3,he3⟩:=HRD5.out.elem dw j g HGG.out
       have e0:=he3 0 _ rfl
       have e1:=he3 1 _ rfl
       simp only[Nat.add_zero] at e0
       have hix3:=fun W=>aH (T:=31) (E:=53) (sz:=3) (c:=x.gc) Tryz.underlying31 rfl Tryz.sizeOf53 hA3 hlt4 W
       clear hA3 he3 hix2
       by_cases hc2:cd2≠0
       ·have q2:(cd2 != 0)=true:=by simpa [bne] using hc2
        have E:=ae (fS HA.out HB.out HX.out HN.out (oG (a:=a) (b:=b) HNS.out HT0.out (g:=g) HGM.out (Np (by rw[HT2.out];exact hc2))) (by decide))
        clear hc2
        go_wp2_with fail
        go_ret2
        exact dY E.out (ah M0.out.bel I5.out.bel)
       have q2:(cd2 != 0)=false:=by rw[Decidable.not_not.1 hc2];rfl
       have HC2:=ae (Decidable.not_not.1 hc2)
       clear hc2
       by_cases h3:g.op≠3
       ·have q3:(g.op != 3)=true:=by simpa [bne] using h3
        have E:=ae (fS HA.out HB.out HX.out HN.out (oG (a:=a) (b:=b) HNS.out HT0.out (g:=g) HGM.out (by unfold iy;rw[if_pos h3];decide)) (by decide))
        clear h3
        go_wp2_with fail
        go_ret2
        exact dY E.out (ah M0.out.bel I5.out.bel)
       have h30:g.op=3:=Decidable.not_not.1 h3
       have q3:(g.op != 3)=false:=by rw[h30];rfl
       have HEG:Hid (iy a b g=0):=by show _=_;unfold iy;rw[if_neg h3,HT2.out,if_neg (by rw[HC2.out];simp)]
       obtain⟨tg,htg⟩:∃ tg:BA,(⟨t2.toArray⟩:BA)=tg:=⟨_,rfl⟩
       have HGN:Hid ((⟨g.nm,3,tg⟩:aA)=iM a b g):=by show _=_;unfold iM;rw[HT2.out,htg]
       rw[htg]
       clear h3 h30 htg HT2
       have m2:=I5.out.box.cell 2 _ rfl
       have HO6:=ae I5.out.own
       have hbz:=I5.out.sz
       have hqz:=I5.out.box.sz
       have FB:Hid (some qb≠(Value.slice G j cc).ownBlock):=by intro e;have:=(HO6.out.lt _ e.symm).1;omega
       go_wp2_with fail
       go_region_law
        ((refine dj _ (by rfl) _ _ _ (by rfl) (qb+1) 53 i1 _ 3 40 Tryz.underlying31 hj hy0 hy1 hy2 rfl (by omega) (.slice G j cc) j _ (by rfl) ((HO6.out.alloc _).drew)
           (w5.heap.size+1) (some ⟨w5.heap.size,0,none⟩) 1 1 [.string g.nm,.int .i64 3,.string tg] (by rfl) (ir w5 _ _ _ _) (by simp[Value.oneCell']) (by unfold maxLen;omega) (by omega) (by simp;omega) ?_
          intro v1 w6 hown1 hg1 hat1
          obtain⟨G1,c1,rfl⟩:=aG hown1
          have KB:=ae ((I5.out.box.alloc (.cells #[.string g.nm,.int .i64 3,.string tg] 53)).drew.grownR hg1 FB.out)
          have m2':=KB.out.cell 2 _ rfl
          have m2f:=KB.out.free 2 (by simp)))
       all_goals
        have I5d:=ae (I5.out.step (bR.drew))
        have N1:=ae (I5d.out.app (.cells #[.string g.nm,.int .i64 3,.string tg] 53) (x:=⟨g.nm,3,tg⟩) hown1 hg1)
        clear hown1 hg1 hat1
        go_wp2_with fail
        go_roundw
        case rel=>exact⟨j+1,c1,G1,by omega,by go_num,ae (fun y hy=>by
         rw[HGT.out] at hy
         rcases List.mem_append.1 hy with hy | hy
         ·exact HE.out y hy
         ·rw[List.mem_singleton.1 hy];exact HEG.out),by rw[HGT.out,List.map_append,List.map_singleton,←HGN.out];exact N1⟩
        case measure=>simp[intOf];omega
      ·obtain rfl:j=x.gives.length:=by omega
       have HI0:Hid (eA a b x.plain=0):=Kj HNS.out HT0.out (fun g hg=>HE.out g (by rw[List.take_length];exact hg))
       have HIN:Hid ((⟨x.nm,tv,G,cc,(x.gives.take x.gives.length).map (iM a b)⟩:aB).plain=dG a b x.plain):=by
        show _=_;rw[List.take_length];unfold dG aB.plain;simp only;rw[show(⟨(trans a b x.ver).1.toArray⟩:BA)=tv from HTV.out]
       generalize (x.gives.take x.gives.length).map (iM a b)=LL at *
       have M1:=ae (M0.out.below IS.out.bel)
       have HO2:=ae M1.out.row
       have m0:=IS.out.box.cell 0 _ rfl
       have m1:=IS.out.box.cell 1 _ rfl
       have m2:=IS.out.box.cell 2 _ rfl
       have hwz:=M1.out.bel.size
       have hwo:=M0.out.bel.size
       have HTK:=ae (aS HX.out)
       go_wp2_with (
        at_builtin
        refine ak _ rfl _ _ _ rfl w.heap.size 48 i0 _ 3 56 Tryz.underlying36 hi hz0 hz1 hz2 rfl (by omega) (.slice O n oc) n _ rfl (HO2.out.alloc _) (wr.heap.size+1) (some ⟨wr.heap.size,0,none⟩) 1 1 [.string x.nm,.string tv,.slice G x.gives.length cc] rfl (dI wr _ _ _ _) (by simp[Value.oneCell']) (by simp only[maxLen];omega) (by omega) (by simp;omega) ?_
        intro v1 w6 hown1 hg1 hat1
        obtain⟨O1,c1,rfl⟩:=aG hown1)
       have N1:Hid (Hs w w6 (out++[⟨x.nm,tv,G,cc,LL⟩]) O1 (n+1) c1):=M1.out.grow (IS.out.inst (by omega)) (by rw[IS.out.cells];exact hown1) hg1
       clear hown1 hg1 hat1
       go_wp2_with fail
       go_roundw
       case rel=>exact⟨k+1,O1,n+1,c1,_,rfl,by go_num,by omega,by omega,by omega,ae (fun y hy=>by
        rw[HTK.out] at hy
        rcases List.mem_append.1 hy with hy | hy
        ·exact HN.out y hy
        ·rw[List.mem_singleton.1 hy];exact HI0.out),by show _=_;rw[HTK.out,List.map_append,List.map_append,HO.out,List.map_singleton,List.map_singleton,HIN.out],N1⟩
       case measure=>simp[intOf];omega
  ·have hall:∀ y∈l,eA a b y.plain=0:=fun y hy=>HN.out y (by rw[tL (by omega)];exact hy)
   have E:=ae (xG HA.out HB.out hall)
   have HO':Hid (out.map aB.plain=(l.map aB.plain).map (dG a b)):=by show _=_;rw[HO.out,tL (by omega),List.map_map];rfl
   clear hall
   go_wp2_with fail
   go_ret2
   exact⟨O,oc,out,by rw[E.out.1,M0.out.len];rfl,M0.out.ok,by rw[E.out.2,HO'.out],M0.out.bel⟩
end
end Go.Proofs.YtkjdbpjglobbjaaGreatDoor
