/- A part of the proof of a law on dependencies in three formats. No condition. -/
import Derived.Test.YtkjdbpjglobbjaaGreatDoorE33
import Derived.Test.YtkjdbpjglobbjaaGreatDoorE55
import Derived.Test.YtkjdbpjglobbjaaGreatDoorE60
set_option maxRecDepth 100000
set_option maxHeartbeats 20000000
set_option linter.unusedVariables false
set_option linter.unusedSimpArgs false
namespace Go.Proofs.YtkjdbpjglobbjaaGreatDoor
section
open Go.RowKit
def jF (fmt:Int)(d:aq):Bool:=!d.bar||decide (fmt=3)
def ls (fmt:Int)(d:aq):Bool:=d.bar && !decide (fmt=3)
theorem yV {α:Type}{p:α→Bool}{l:List α}{k:Nat}{x:α}(hx:l[k]?=some x)(h:p x=true):(l.take (k+1)).filter p=(l.take k).filter p++[x]:=by
 rw[aS hx,List.filter_append];simp[h]
theorem BU {α:Type}{p:α→Bool}{l:List α}{k:Nat}{x:α}(hx:l[k]?=some x)(h:p x=false):(l.take (k+1)).filter p=(l.take k).filter p:=by
 rw[aS hx,List.filter_append];simp[h]
theorem St (fmt:Int)(l:List aq):(l.filter (jF fmt)++l.filter (ls fmt)).map aq.pl=rM fmt (l.map aq.pl):=by
 unfold rM
 by_cases h:fmt=3
 ·rw[if_pos h]
  have e1:l.filter (jF fmt)=l:=List.filter_eq_self.2 fun d _=>by unfold jF;simp[h]
  have e2:l.filter (ls fmt)=[]:=List.filter_eq_nil_iff.2 fun d _=>by unfold ls;simp[h]
  rw[e1,e2,List.append_nil]
 ·rw[if_neg h,List.map_append]
  unfold dM
  rw[List.filter_map,List.filter_map]
  congr 2
  ·apply List.filter_congr;intro d _;unfold jF;simp[h,aq.pl]
  ·apply List.filter_congr;intro d _;unfold ls;simp[h,aq.pl]
structure JN (w wr:World) (L:List aq) (A:Option Addr) (n c:Nat):Prop where
 len:L.length=n
 row:wr.ownsRow w.heap.size 33 2 (.slice A n c) n (L.flatMap aq.cells)
 bel:Below w.heap.size w wr
theorem JN.start (w:World):JN w w [] none 0 0:=⟨rfl,World.ownsRow_nil _ _ _ _,bR⟩
theorem JN.below {w wr w':World}{L:List aq}{A:Option Addr}{n c:Nat}(h:JN w wr L A n c)(hb:Below wr.heap.size wr w'):JN w w' L A n c:=⟨h.len,aR h.row hb,ah h.bel hb⟩
theorem JN.grow {w wr w2:World}{L:List aq}{A A1:Option Addr}{n c c1:Nat}{o:Obj}{d:aq}(h:JN w wr L A n c)
  (hr:w2.ownsRow w.heap.size 33 2 (.slice A1 (n+1) c1) (n+1) (L.flatMap aq.cells++d.cells))
  (hg:(wr.alloc o).grownBy w2 (Value.slice A n c).ownBlock):JN w w2 (L++[d]) A1 (n+1) c1:=by
 have ho:=h.below ((Below.refl wr.heap.size wr).alloc lr o)
 exact⟨by simp[h.len],by rw[List.flatMap_append];simpa using hr,ho.bel.grown hg ho.bel.size (fun j hj=>(ho.row.lt j hj).1)⟩
theorem Eb (fmt:Int)(A:Option Addr)(c:Nat)(l:List aq)(w:World)(hG:En w)(hd:eW w A l)(hf:∀ x∈l,x.fits)(hl:l.length≤9223372036854775807):
  Calls Tryz.prog 3 #[.int .i64 fmt,.slice A l.length c] w fun e w'=>e=.returned (.bool true)∧Below w.heap.size w w':=by
 obtain⟨i0,hi,hz0,hz1,hz2⟩:=info_parts kN
 have HG:=ae hG;have HD:=ae hd;have HF:=ae hf;have HL:=ae hl
 clear hG hd hf hl
 go_enter Tryz.func3,Tryz.ntmps3
 go_wp2_with fail
 refine(uy _ HG.out).mono ?_;rintro e w1 ⟨rfl,hb1⟩
 have B1:=ae hb1;clear hb1
 go_wp2_with fail
 refine(Ad A c l _ (HD.out.below B1.out) HF.out HL.out).mono ?_;rintro e w2 ⟨bb,rfl,hp,hb2⟩
 have B2:=ae (ah B1.out hb2);clear hb2
 have HP:=ae hp;clear hp
 cases bb
 ·go_wp2_with fail
  go_ret
  exact⟨rfl,B2.out⟩
 have LW:=ae (HP.out rfl)
 have FW:Hid (oR l):=Qy LW.out.1 LW.out.2
 have hll:l.length≤80:=LW.out.1
 clear HP B1 HF HL
 go_wp2_with fail
 refine(vB fmt A c l _ (HG.out.below B2.out) (HD.out.below B2.out) FW.out).mono ?_;rintro e w3 ⟨A1,c1,A2,c2,ns,bs,rfl,hb3,h1,h2,h3,h4⟩
 have B3:=ae (ah B2.out hb3);clear hb3 B2
 have R1:=ae h1;have R2:=ae h2
 clear h1 h2
 by_cases he:rK fmt (l.map aq.pl)≠0
 ·obtain⟨rfl,rfl⟩:=h4 he
  clear h3 h4
  generalize rK fmt (l.map aq.pl)=ee at *
  have q:(ee != 0)=true:=by simpa [bne] using he
  clear he
  go_wp2_with fail
  go_ret
  exact⟨rfl,B3.out⟩
 have he0:rK fmt (l.map aq.pl)=0:=Decidable.not_not.1 he
 obtain⟨t1,t2⟩:=h3 he0
 obtain⟨k1,k2,k3⟩:=xB he0
 obtain⟨n1,n2⟩:=ss he0 false
 obtain⟨m1,m2⟩:=ss he0 true
 rw[←t1] at k1 k3 n1 n2
 rw[←t2] at k2 k3 m1 m2
 rw[List.length_map] at n1 m1
 have FR1:=ae fun W hb=>mo fmt false A1 c1 ns W (HG.out.below (ah B3.out hb)) (R1.out.below hb) (by omega) (fun x hx=>by have:=n2 (bl x) (List.mem_map.2 ⟨x,hx,rfl⟩);rw[af] at this;exact this)
 have FR2:=ae fun W hb=>mo fmt true A2 c2 bs W (HG.out.below (ah B3.out hb)) (R2.out.below hb) (by omega) (fun x hx=>by have:=m2 (bl x) (List.mem_map.2 ⟨x,hx,rfl⟩);rw[af] at this;exact this)
 have K1:=ae k1;have K2:=ae k2;have K3:=ae k3
 rw[he0]
 clear h3 h4 he he0 t1 t2 k1 k2 k3 n1 n2 m1 m2
 go_wp2_with fail
 refine(FR1.out _ bR).mono ?_;rintro e w4 ⟨X,xn,xc,xs,code,rfl,hb4,hx⟩
 rw[K1.out,if_pos rfl] at hx
 obtain⟨rfl,hx1,hx2⟩:=hx
 have B34:=ae hb4
 have XP:=ae hx1;have XO:=ae hx2
 clear hb4 hx1 hx2
 go_wp2_with fail
 refine(FR2.out _ B34.out).mono ?_;rintro e w5 ⟨Y,yn,yc,ys,code,rfl,hb5,hy⟩
 rw[K2.out,if_pos rfl] at hy
 obtain⟨rfl,hy1,hy2⟩:=hy
 have B5:=ae (ah B3.out (ah B34.out hb5))
 have YP:=ae hy1;have YO:=ae hy2.ok
 have XO5:=ae (XO.out.ok.below hb5)
 have hxn:=XO.out.len;have hyn:=hy2.len
 have HD5:=ae (HD.out.below B5.out)
 clear hb5 hy1 hy2 FR1 FR2 R1 R2 K1 K2 XO B34 HG
 have HLN:Hid (xs.length+ys.length=(rM fmt (l.map aq.pl)).length):=by
  have:=congrArg List.length K3.out
  rw[←XP.out,←YP.out] at this
  show _=_
  simpa using this
 go_wp2_with fail
 go_loopw [11,12] (fun s11 s12 wr=>∃ (k n oc:Nat) (O:Option Addr),k≤l.length∧n≤k∧s11=.slice O n oc∧s12=.int .i64 k∧Hid (JN w5 wr ((l.take k).filter (jF fmt)) O n oc)) (fun _ i _=>l.length-(intOf i).toNat)
 case atStart=>exact⟨0,0,0,none,z0,lr,rfl,rfl,JN.start w5⟩
 case round=>
  obtain⟨k,n,oc,O,hk,hn,rfl,rfl,HW⟩:=hrel
  by_cases hlt:k<l.length
  ·obtain⟨x,hx⟩:∃ x,l[k]?=some x:=⟨_,gG hlt⟩
   obtain⟨b,off,hA,he⟩:=(HD5.out.row.below HW.out.bel).elem fI k x hx
   have e0:=he 0 _ rfl
   have e1:=he 1 _ rfl
   simp only[Nat.add_zero] at e0
   have hix:=fun W=>aH (T:=22) (E:=33) (sz:=2) (c:=c) Tryz.underlying22 rfl Tryz.sizeOf33 hA hlt W
   have HX:=ae hx
   clear hx hA he
   obtain⟨kb,hkb⟩:∃ kb,jF fmt x=kb:=⟨_,rfl⟩
   have HKB:=ae hkb
   clear hkb
   obtain⟨bar,aa,ac,alts⟩:=x
   simp only at e0 e1
   go_upto_region 16 with(fail)
   go_cut [69] (fun v wx=>v=.bool kb∧wr=wx)
   case first=>
    cases bar
    ·have hb:Hid (true=kb):=by show _=_;rw[←HKB.out];rfl
     go_wp2_with fail
     go_meet
     exact⟨by rw[←hb.out],rfl⟩
    ·by_cases f3:fmt=3
     ·have q3:(fmt==3)=true:=by simpa using f3
      have hb:Hid (true=kb):=by show _=_;rw[←HKB.out];unfold jF;simp[f3]
      clear f3
      go_wp2_with fail
      go_meet
      exact⟨by rw[←hb.out],rfl⟩
     ·have q3:(fmt==3)=false:=by simpa using f3
      have hb:Hid (false=kb):=by show _=_;rw[←HKB.out];unfold jF;simp[f3]
      clear f3
      go_wp2_with fail
      go_meet
      exact⟨by rw[←hb.out],rfl⟩
   case rest=>
    obtain⟨rfl,rfl⟩:=hcut
    cases kb
    ·have HT:=ae (BU HX.out HKB.out)
     go_wp2_with fail
     go_roundw
     case rel=>exact⟨k+1,n,oc,O,by omega,by omega,rfl,by go_num,by rw[HT.out];exact HW⟩
     case measure=>simp[intOf];omega
    ·have HT:=ae (yV HX.out HKB.out)
     have HO:=ae HW.out.row
     have hwz:=HW.out.bel.size
     go_wp2_with (
      at_builtin
      refine ak _ rfl _ _ _ rfl w5.heap.size 33 i0 _ 2 32 Tryz.underlying22 hi hz0 hz1 hz2 rfl (by omega) (.slice O n oc) n _ rfl (HO.out.alloc _) (wr.heap.size+1) (some ⟨wr.heap.size,0,none⟩) 1 1 [.bool bar,.slice aa alts.length ac] rfl (kI wr _ _ _) (by simp[Value.oneCell']) (by simp only[maxLen];omega) (by omega) (by simp;omega) ?_
      intro v1 w6 hown1 hg1 hat1
      obtain⟨O1,d1,rfl⟩:=aG hown1)
     have N1:Hid (JN w5 w6 ((l.take k).filter (jF fmt)++[⟨bar,aa,ac,alts⟩]) O1 (n+1) d1):=HW.out.grow hown1 hg1
     clear hown1 hg1 hat1
     go_wp2_with fail
     go_roundw
     case rel=>exact⟨k+1,n+1,d1,O1,by omega,by omega,rfl,by go_num,by rw[HT.out];exact N1⟩
     case measure=>simp[intOf];omega
  ·obtain rfl:k=l.length:=by omega
   have HW1:Hid (JN w5 wr (l.filter (jF fmt)) O n oc):=by have:=HW.out;rwa [List.take_length] at this
   clear HW hlt
   go_wp2_with fail
   go_loopw [11,13] (fun s11 s13 wr=>∃ (k n oc:Nat) (O:Option Addr),k≤l.length∧n≤l.length+k∧s11=.slice O n oc∧s13=.int .i64 k∧Hid (JN w5 wr (l.filter (jF fmt)++(l.take k).filter (ls fmt)) O n oc)) (fun _ i _=>l.length-(intOf i).toNat)
   case atStart=>exact⟨0,n,oc,O,z0,by omega,rfl,rfl,by simpa using HW1⟩
   case round=>
    clear HW1
    obtain⟨k,n,oc,O,hk,hn,rfl,rfl,HW⟩:=hrel
    by_cases hlt:k<l.length
    ·obtain⟨x,hx⟩:∃ x,l[k]?=some x:=⟨_,gG hlt⟩
     obtain⟨b,off,hA,he⟩:=(HD5.out.row.below HW.out.bel).elem fI k x hx
     have e0:=he 0 _ rfl
     have e1:=he 1 _ rfl
     simp only[Nat.add_zero] at e0
     have hix:=fun W=>aH (T:=22) (E:=33) (sz:=2) (c:=c) Tryz.underlying22 rfl Tryz.sizeOf33 hA hlt W
     have HX:=ae hx
     clear hx hA he
     obtain⟨kb,hkb⟩:∃ kb,ls fmt x=kb:=⟨_,rfl⟩
     have HKB:=ae hkb
     clear hkb
     obtain⟨bar,aa,ac,alts⟩:=x
     simp only at e0 e1
     go_upto_region 21 with(fail)
     go_cut [91] (fun v wx=>v=.bool kb∧wr=wx)
     case first=>
      cases bar
      ·have hb:Hid (false=kb):=by show _=_;rw[←HKB.out];rfl
       go_wp2_with fail
       go_meet
       exact⟨by rw[←hb.out],rfl⟩
      ·by_cases f3:fmt=3
       ·have q3:(fmt != 3)=false:=by simpa using f3
        have hb:Hid (false=kb):=by show _=_;rw[←HKB.out];unfold ls;simp[f3]
        clear f3
        go_wp2_with fail
        go_meet
        exact⟨by rw[←hb.out],rfl⟩
       ·have q3:(fmt != 3)=true:=by simpa using f3
        have hb:Hid (true=kb):=by show _=_;rw[←HKB.out];unfold ls;simp[f3]
        clear f3
        go_wp2_with fail
        go_meet
        exact⟨by rw[←hb.out],rfl⟩
     case rest=>
      obtain⟨rfl,rfl⟩:=hcut
      cases kb
      ·have HT:=ae (BU HX.out HKB.out)
       go_wp2_with fail
       go_roundw
       case rel=>exact⟨k+1,n,oc,O,by omega,by omega,rfl,by go_num,by rw[HT.out];exact HW⟩
       case measure=>simp[intOf];omega
      ·have HT:=ae (yV HX.out HKB.out)
       have HO:=ae HW.out.row
       have hwz:=HW.out.bel.size
       go_wp2_with (
        at_builtin
        refine ak _ rfl _ _ _ rfl w5.heap.size 33 i0 _ 2 32 Tryz.underlying22 hi hz0 hz1 hz2 rfl (by omega) (.slice O n oc) n _ rfl (HO.out.alloc _) (wr.heap.size+1) (some ⟨wr.heap.size,0,none⟩) 1 1 [.bool bar,.slice aa alts.length ac] rfl (kI wr _ _ _) (by simp[Value.oneCell']) (by simp only[maxLen];omega) (by omega) (by simp;omega) ?_
        intro v1 w6 hown1 hg1 hat1
        obtain⟨O1,d1,rfl⟩:=aG hown1)
       have N1:Hid (JN w5 w6 ((l.filter (jF fmt)++(l.take k).filter (ls fmt))++[⟨bar,aa,ac,alts⟩]) O1 (n+1) d1):=HW.out.grow hown1 hg1
       clear hown1 hg1 hat1
       go_wp2_with fail
       go_roundw
       case rel=>exact⟨k+1,n+1,d1,O1,by omega,by omega,rfl,by go_num,by rw[HT.out,←List.append_assoc];exact N1⟩
       case measure=>simp[intOf];omega
    ·obtain rfl:k=l.length:=by omega
     have HW1:Hid (JN w5 wr (l.filter (jF fmt)++l.filter (ls fmt)) O n oc):=by have:=HW.out;rwa [List.take_length] at this
     clear HW hlt
     have hnl:=HW1.out.len
     have WI:=ae (St fmt l)
     have hwn:n=xs.length+ys.length:=by
      rw[HLN.out,←WI.out,List.length_map,hnl]
     have HX6:=ae (XO5.out.below HW1.out.bel)
     have HY6:=ae (YO.out.below HW1.out.bel)
     have RX:=ae ((HX6.out.row.below ((Below.refl wr.heap.size wr).alloc lr (.cells #[] 33))).reads (by omega))
     have HONX:=ae (oQ xs)
     have HONY:=ae (oQ ys)
     have OW:Hid ((wr.alloc (.cells #[] 33)).ownsRow wr.heap.size 33 2 (.slice (some ⟨wr.heap.size,0,none⟩) 0 0) 0 []):=World.ownsRow_lit wr #[] 0 lr (by simp[maxLen]) rfl
     rw[hxn] at RX
     go_wp2_with (
      at_builtin
      first
       | (refine ak _ rfl _ _ _ rfl wr.heap.size 33 i0 _ 2 32 Tryz.underlying22 hi hz0 hz1 hz2 rfl (by omega) (.slice (some ⟨wr.heap.size,0,none⟩) 0 0) 0 _ rfl OW.out _ X xn xc _ rfl RX.out HONX.out (by simp only[maxLen];omega) (by omega) (by simp) ?_
          intro v1 w6 hown1 hg1 hat1
          rw[Nat.zero_add] at hown1
          obtain⟨O1,d1,rfl⟩:=aG hown1
          have B6:Hid (Below wr.heap.size wr w6):=((Below.refl wr.heap.size wr).alloc lr (.cells #[] 33)).grown hg1 (by simp) (fun j hj=>(OW.out.lt j hj).1)
          have RY:=ae ((HY6.out.row.below B6.out).reads (by omega))
          rw[hyn] at RY
          have O6:=ae hown1
          rw[List.nil_append] at O6
          clear hown1 hg1 hat1 RX OW)
       | (refine ak _ rfl _ _ _ rfl wr.heap.size 33 i0 _ 2 32 Tryz.underlying22 hi hz0 hz1 hz2 rfl (by omega) (.slice O1 xn d1) xn _ rfl O6.out _ Y yn yc _ rfl RY.out HONY.out (by simp only[maxLen];omega) (by omega) (by have:=B6.out.size;omega) ?_
          intro v2 w7 hown2 hg2 hat2
          obtain⟨O2,d2,rfl⟩:=aG hown2
          have OO2:=ae hown2
          have GG2:=ae hg2
          clear hown2 hg2 hat2))
     have B7:Hid (Below wr.heap.size wr w7):=B6.out.grown GG2.out B6.out.size (fun j hj=>(O6.out.lt j hj).1)
     have DX:Hid (eW w7 O2 (xs++ys)):=by
      refine⟨?_,fun d hd=>?_⟩
      ·rw[List.length_append,List.flatMap_append,hxn,hyn]
       exact bA OO2.out
      ·rcases List.mem_append.1 hd with hd | hd
       ·exact(HX6.out.all d hd).below B7.out
       ·exact(HY6.out.all d hd).below B7.out
     have DL:Hid (eW w7 O (l.filter (jF fmt)++l.filter (ls fmt))):=by
      refine⟨?_,fun d hd=>?_⟩
      ·rw[hnl]
       exact(bA HW1.out.row).below B7.out
      ·have hm:d∈l:=by
        rcases List.mem_append.1 hd with hd | hd
        ·exact(List.mem_filter.1 hd).1
        ·exact(List.mem_filter.1 hd).1
       exact(HD5.out.all d hm).below (ah HW1.out.bel B7.out)
     have HE:Hid ((xs++ys).map aq.pl=(l.filter (jF fmt)++l.filter (ls fmt)).map aq.pl):=by
      show _=_
      rw[WI.out,←K3.out,List.map_append,XP.out,YP.out]
     have HA:Hid (∀ x∈xs++ys,x.alts.length≤1000000):=by
      intro x hx
      have hm:x.pl∈(l.filter (jF fmt)++l.filter (ls fmt)).map aq.pl:=by
       rw[←HE.out];exact List.mem_map.2 ⟨x,hx,rfl⟩
      obtain⟨y,hy,hxy⟩:=List.mem_map.1 hm
      have hyl:y∈l:=by
       rcases List.mem_append.1 hy with hy | hy
       ·exact(List.mem_filter.1 hy).1
       ·exact(List.mem_filter.1 hy).1
      have h1:y.alts=x.alts:=congrArg ba.alts hxy
      have h2:=(LW.out.2 y hyl).1
      rw[h1] at h2
      omega
     have HSD:Hid (Calls Tryz.prog 10 #[.slice O2 (xn+yn) d2,.slice O (xn+yn) oc] w7 fun e w'=>e=.returned (.bool true)∧Below w7.heap.size w7 w'):=by
      have:=DP O2 O d2 oc (xs++ys) (l.filter (jF fmt)++l.filter (ls fmt)) w7 DX.out DL.out HE.out (by rw[List.length_append,hxn,hyn];omega) HA.out
      simp only[List.length_append,hxn,hyn,hnl,hwn] at this
      exact this
     have B57:=ae (ah B5.out (ah HW1.out.bel B7.out))
     clear OO2 GG2 DX DL HE HA WI HX6 HY6 RY O6 HONX HONY hnl hwn hxn hyn
     go_wp2_with fail
     refine HSD.out.mono ?_;rintro e w8 ⟨rfl,hb8⟩
     have B8:=ae (ah B57.out hb8);clear hb8
     go_wp2_with fail
     go_ret
     exact⟨rfl,B8.out⟩
end
end Go.Proofs.YtkjdbpjglobbjaaGreatDoor
