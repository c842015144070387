/- A part of the proof of a law on dependencies in three formats. No condition. -/
import Derived.Test.YtkjdbpjglobbjaaGreatDoorE15
import Derived.Test.YtkjdbpjglobbjaaGreatDoorE28
import Derived.Test.YtkjdbpjglobbjaaGreatDoorE37
set_option maxRecDepth 100000
set_option maxHeartbeats 20000000
set_option linter.unusedVariables false
set_option linter.unusedSimpArgs false
namespace Go.Proofs.YtkjdbpjglobbjaaGreatDoor
section
open Go.RowKit
theorem xD (fmt:Int)(c:aT):aN fmt c=iE fmt c++fC c++c.lt++bM fmt c++(bK fmt++aC c.rev):=by unfold aN bi;simp
theorem Pf {fmt:Int}{c:aT}(h:c.ep=0):iE fmt c=[]:=by unfold iE;rw[if_pos (.inr h)]
theorem Pg {fmt:Int}{c:aT}(h:¬ c.ep=0)(h3:fmt=3→c.ep=0):iE fmt c=aC c.ep++[58]:=by unfold iE;rw[if_neg (by rintro(e | e);exact h (h3 e);exact h e)]
theorem Ph {l:List Nat}:bE 46 ((l.take 0).map aC)=[]:=rfl
theorem rT (fmt:Int)(c:bG)(w:World)(hc:c.ok w)(hf:c.few)(h64:c.nums.length≤64)(h3:fmt=3→c.ep=0):
  Calls Tryz.prog 84 #[.int .i64 fmt,c.val] w fun e w'=>e=.returned (.string ⟨(aN fmt c.plain).toArray⟩)∧Below w.heap.size w w':=by
 have HC:=ae hc;have HF:=ae hf;have H3:=ae h3
 clear hc hf h3
 obtain⟨W0,hW0⟩:∃ W0,w.alloc (.cells #[.int .i64 c.ep,.slice c.na c.nums.length c.nc,.string c.lt,.string c.pre,.int .i64 c.pnum,.int .i64 c.rev] 95)=W0:=⟨_,rfl⟩
 have R0:Hid (Ek w W0 c):=by show Ek _ _ _;rw[←hW0];exact⟨bR.alloc lr _,aF.new w c.cells _⟩
 have lp:=(jC HF.out.ep);have lq:=(jC HF.out.pnum);have lr':=(jC HF.out.rev)
 have k0:=R0.out.box.cell 0 _ rfl
 unfold bG.val
 go_enter Tryz.func84,Tryz.ntmps84
 go_upto_if 10 with(fail)
 clear hW0
 go_cut [5] (fun s wx=>∃ t:BA,s=.string t∧Hid (bl t=iE fmt c.plain)∧t.size≤20∧Hid (Ek w wx c))
 case first=>
  by_cases he:c.ep=0
  ·have q:((c.ep:Int) != 0)=false:=by rw[he];rfl
   have E:Hid (bl ⟨#[]⟩=iE fmt c.plain):=by show _=_;rw[Pf (show c.plain.ep=0 from he)];rfl
   clear he
   go_wp2_with fail
   go_meet
   exact⟨⟨#[]⟩,rfl,E,by decide,R0⟩
  ·have q:((c.ep:Int) != 0)=true:=by simp[bne];omega
   have E:Hid (bl (gO c.ep++⟨#[58]⟩)=iE fmt c.plain):=by show _=_;rw[Pg (show ¬ c.plain.ep=0 from he) H3.out,bg,ii];rfl
   clear he
   have hsz:(gO c.ep++⟨#[58]⟩:BA).size≤20:=by rw[FH];have:(⟨#[58]⟩:BA).size=1:=rfl;omega
   go_wp2_with fail
   refine(rS c.ep HF.out.ep _).mono ?_;rintro e w1 ⟨rfl,hb1⟩
   have R1:=ae (R0.out.step hb1)
   clear hb1
   go_wp2_with fail
   go_meet
   exact⟨_,rfl,E,hsz,R1⟩
 case rest=>
 obtain⟨t0,rfl,HT0,ht0,R1⟩:=hcut
 clear R0 k0
 go_wp2_with fail
 go_loopw [5,6] (fun s5 s6 wr=>∃ (k:Nat) (t:BA),k≤c.nums.length∧s5=.string t∧s6=.int .i64 k∧Hid (bl t=iE fmt c.plain++bE 46 ((c.nums.take k).map aC))∧t.size≤20+20*k∧Hid (Ek w wr c)) (fun _ i _=>c.nums.length-(intOf i).toNat)
 case atStart=>exact⟨0,t0,z0,rfl,rfl,by show _=_;rw[Ph,List.append_nil];exact HT0.out,by omega,R1⟩
 case round=>
  clear R1 HT0 ht0
  obtain⟨k,t,hk,rfl,rfl,HT,ht,R2⟩:=hrel
  have k1:=R2.out.box.cell 1 _ rfl
  by_cases hlt:k<c.nums.length
  ·obtain⟨x,hx⟩:∃ x,c.nums[k]?=some x:=⟨_,gG hlt⟩
   have hxs:=HF.out.each x (gM hx)
   have lx:=jC hxs
   have d70:decide ((k:Int)<70)=true:=dT (by omega)
   have d71:decide (k<70)=true:=dT (by omega)
   have d1:decide ((k:Int)<(c.nums.length:Int))=true:=dT (by omega)
   have d2:decide (k<c.nums.length)=true:=dT hlt
   have TK:Hid ((c.nums.take (k+1)).map aC=(c.nums.take k).map aC++[aC x]):=by
    show _=_;obtain⟨hk',hx'⟩:=gS hx;rw[tS hk',hx'];simp
   go_upto_if 27 with(fail)
   go_cut [5] (fun s wx=>∃ t:BA,s=.string t∧Hid (bl t=iE fmt c.plain++(if (c.nums.take k).map aC=[] then [] else bE 46 ((c.nums.take k).map aC)++[46]))∧t.size≤21+20*k∧wr=wx)
   case first=>
    by_cases k0:0<k
    rotate_left
    ·have e1:decide ((0:Int)<(k:Int))=false:=dF (by omega)
     have e2:decide (0<k)=false:=dF k0
     have E:Hid (bl t=iE fmt c.plain++(if (c.nums.take k).map aC=[] then [] else bE 46 ((c.nums.take k).map aC)++[46])):=by show _=_;rw[HT.out];(obtain rfl:k=0:=by omega);rfl
     go_wp2_with fail
     go_meet
     exact⟨t,rfl,E,by omega,by trivial⟩
    ·have e1:decide ((0:Int)<(k:Int))=true:=dT (by omega)
     have e2:decide (0<k)=true:=dT k0
     have hs1:(t++⟨#[46]⟩:BA).size≤21+20*k:=by rw[FH];have:(⟨#[46]⟩:BA).size=1:=rfl;omega
     have E:Hid (bl (t++⟨#[46]⟩)=iE fmt c.plain++(if (c.nums.take k).map aC=[] then [] else bE 46 ((c.nums.take k).map aC)++[46])):=by
      show _=_
      rw[bg,HT.out,if_neg (by intro e;have:=congrArg List.length e;rw[List.length_map,List.length_take,List.length_nil] at this;omega),List.append_assoc];rfl
     go_wp2_with fail
     go_meet
     exact⟨_,rfl,E,hs1,by trivial⟩
   case rest=>
   obtain⟨t1,rfl,HT1,ht1,rfl⟩:=hcut
   clear HT ht
   obtain⟨b,off,hA,he⟩:=(Rd.below HC.out R2.out.bel).num k x hx
   have hix:=fun W=>aH (T:=93) (E:=3) (sz:=1) (c:=c.nc) Tryz.underlying93 rfl Tryz.sizeOf3 hA hlt W
   simp only[Nat.mul_one] at hix
   clear hx hA
   go_wp2_with fail
   refine(rS x hxs _).mono ?_;rintro e w1 ⟨rfl,hb1⟩
   have R3:=ae (R2.out.step hb1)
   clear hb1 k1 he hix R2
   have hs2:(t1++gO x:BA).size≤20+20*(k+1):=by rw[FH];omega
   have E:Hid (bl (t1++gO x)=iE fmt c.plain++bE 46 ((c.nums.take (k+1)).map aC)):=by
    show _=_;rw[bg,HT1.out,TK.out,my,ii,List.append_assoc]
   go_wp2_with fail
   go_roundw
   case rel=>exact⟨k+1,_,by omega,rfl,by go_num,E,hs2,R3⟩
   case measure=>simp[intOf];omega
  ·have d1:decide ((k:Int)<(c.nums.length:Int))=false:=dF (by omega)
   have d2:decide (k<c.nums.length)=false:=dF hlt
   have ltz:=HF.out.lt;have prz:=HF.out.pre
   have k2:=R2.out.box.cell 2 _ rfl
   have k3:=R2.out.box.cell 3 _ rfl
   have k4:=R2.out.box.cell 4 _ rfl
   have HTL:Hid (bl (t++c.lt)=iE fmt c.plain++fC c.plain++bl c.lt):=by
    show _=_;rw[bg,HT.out];unfold fC;rw[tL (by omega)];rfl
   have tl:t.size≤1300:=by omega
   have tlz:(t++c.lt:BA).size≤2300:=by rw[FH];omega
   clear HT ht
   obtain⟨pb,hpb⟩:∃ pb,c.pre.toList.isEmpty=pb:=⟨_,rfl⟩
   go_upto_if 44 with(fail)
   have HPB:=ae hpb;clear hpb d1 d2 hlt
   go_cut [5] (fun s wx=>∃ t:BA,s=.string t∧Hid (bl t=iE fmt c.plain++fC c.plain++bl c.lt++bM fmt c.plain)∧t.size≤3400∧Hid (Ek w wx c))
   case first=>
    cases pb
    rotate_left
    ·have p0:c.pre.size=0:=by have:=HPB.out;rw[ai,aL] at this;exact dO this
     have E:Hid (bl (t++c.lt)=iE fmt c.plain++fC c.plain++bl c.lt++bM fmt c.plain):=by show _=_;unfold bM;rw[if_pos (show c.plain.pre=[] from bj c.pre p0),List.append_nil];exact HTL.out
     clear p0
     go_wp2_with fail
     go_meet
     exact⟨(t++c.lt),rfl,E,by omega,R2⟩
    ·have he1:¬ c.pre.toList=[]:=by intro h;have:=HPB.out;rw[h] at this;simp at this
     have HPT:Hid (bM fmt c.plain=jj fmt::(bl c.pre++aC c.pnum)):=by
      show _=_;unfold bM;rw[if_neg (show ¬ c.plain.pre=[] by show ¬ bl c.pre=[];rw[←ai];exact he1)];rfl
     clear he1
     go_upto_if 46 with(fail)
     go_cut [7] (fun s wx=>s=.string (fa fmt)∧wx=wr)
     case first=>
      by_cases h3:fmt=3
      ·have q:(fmt==3)=true:=by rw[h3];rfl
       have E:Hid ((⟨#[95]⟩:BA)=fa fmt):=by show _=_;subst h3;rfl
       clear h3
       go_wp2_with fail
       go_meet
       exact⟨by rw[E.out],by trivial⟩
      ·have q:(fmt==3)=false:=by simpa using h3
       have E:Hid ((⟨#[126]⟩:BA)=fa fmt):=by show _=_;unfold fa jj;rw[if_neg h3]
       clear h3
       go_wp2_with fail
       go_meet
       exact⟨by rw[E.out],by trivial⟩
     case rest=>
     obtain⟨rfl,rfl⟩:=hcut
     have sg1:(fa fmt).size=1:=rfl
     have sz1:((t++c.lt)++fa fmt).size≤2301:=by rw[FH];omega
     have sz2:((t++c.lt)++fa fmt++c.pre).size≤3301:=by rw[FH];omega
     have sz3:((t++c.lt)++fa fmt++c.pre++gO c.pnum).size≤3400:=by rw[FH];omega
     have q1:=fun W=>run_string_add_sum (P:=Tryz.prog) (w:=W) (t++c.lt) (fa fmt) (by omega)
     have q2:=fun W=>run_string_add_sum (P:=Tryz.prog) (w:=W) ((t++c.lt)++fa fmt) c.pre (by omega)
     have q3:=fun W=>run_string_add_sum (P:=Tryz.prog) (w:=W) ((t++c.lt)++fa fmt++c.pre) (gO c.pnum) (by omega)
     have E:Hid (bl ((t++c.lt)++fa fmt++c.pre++gO c.pnum)=iE fmt c.plain++fC c.plain++bl c.lt++bM fmt c.plain):=by
      show _=_
      rw[bg,bg,bg,ii,HTL.out,HPT.out,show bl (fa fmt)=[jj fmt] from rfl];simp
     have R2d:Hid (Ek w wc.drew c):=R2.out.step (bR.drew)
     go_wp2_with fail
     go_region_held3 (fun w'=>w'.cell? ⟨w.heap.size,3,none⟩=some (.string c.pre)∧w'.cell? ⟨w.heap.size,4,none⟩=some (.int .i64 c.pnum))
      (first
        | go_keep
        | exact⟨(R2d.out.step hb5).box.cell 3 _ rfl,(R2d.out.step hb5).box.cell 4 _ rfl⟩)
      (first | (go_at_call 123;refine(rS c.pnum HF.out.pnum wc.drew).mono ?_;rintro e w5 ⟨rfl,hb5⟩))
     all_goals
      have R3:=ae (R2d.out.step hb5)
      go_wp2_with fail
      go_meet
      exact⟨_,rfl,E,sz3,R3⟩
   case rest=>
   obtain⟨t2,rfl,HT2,ht2,R3⟩:=hcut
   clear R2 k1 k2 k3 k4 HTL
   have k5:=R3.out.box.cell 5 _ rfl
   have ds:Hid (bl (gZ fmt)=bK fmt):=gI _
   by_cases h3:fmt=3
   ·have q:(fmt==3)=true:=by rw[h3];rfl
    have e2:(⟨#[45,114]⟩:BA)=gZ fmt:=by subst h3;rfl
    have HE2:=ae e2
    have sz1:(t2++⟨#[45,114]⟩:BA).size≤3402:=by rw[FH];have:(⟨#[45,114]⟩:BA).size=2:=rfl;omega
    have sz2:(t2++⟨#[45,114]⟩++gO c.rev:BA).size≤3430:=by rw[FH];omega
    have E:Hid ((t2++⟨#[45,114]⟩++gO c.rev:BA)=⟨(aN fmt c.plain).toArray⟩):=by
     show _=_;apply dp;rw[bg,bg,HT2.out,gI,HE2.out,ds.out,ii,xD,List.append_assoc];rfl
    clear h3 e2
    go_wp2_with fail
    refine(rS c.rev HF.out.rev _).mono ?_;rintro e w5 ⟨rfl,hb5⟩
    have B5:=ae (ah R3.out.bel hb5)
    clear hb5
    go_wp2_with fail
    go_ret
    exact⟨by rw[E.out];rfl,B5.out⟩
   ·have q:(fmt==3)=false:=by simpa using h3
    have e2:(⟨#[45]⟩:BA)=gZ fmt:=by unfold gZ bK;rw[if_neg h3]
    have HE2:=ae e2
    have sz1:(t2++⟨#[45]⟩:BA).size≤3402:=by rw[FH];have:(⟨#[45]⟩:BA).size=1:=rfl;omega
    have sz2:(t2++⟨#[45]⟩++gO c.rev:BA).size≤3430:=by rw[FH];omega
    have E:Hid ((t2++⟨#[45]⟩++gO c.rev:BA)=⟨(aN fmt c.plain).toArray⟩):=by
     show _=_;apply dp;rw[bg,bg,HT2.out,gI,HE2.out,ds.out,ii,xD,List.append_assoc];rfl
    clear h3 e2
    go_wp2_with fail
    refine(rS c.rev HF.out.rev _).mono ?_;rintro e w5 ⟨rfl,hb5⟩
    have B5:=ae (ah R3.out.bel hb5)
    clear hb5
    go_wp2_with fail
    go_ret
    exact⟨by rw[E.out];rfl,B5.out⟩
theorem Bm {c:aT}(h:64<c.nums.length):fV c=false:=by
 cases hb:fV c with
 | false=>rfl
 | true=>
  have hs:=((lP c).1 hb).short
  have h1:=nw c.nums
  rw[xD] at hs
  simp only[List.length_append] at hs
  unfold fC at hs
  omega
theorem Mn (s:BA):decide (pH s<0)=(!(bl s).isEmpty && !bu.contains (bl s)):=by
 rw[←Bc,bI]
 unfold pH
 by_cases h:nH s<4
 ·rw[if_pos h,dT h];simp
 ·rw[if_neg h,dF h]
  by_cases h0:s.size=0
  ·rw[if_pos h0,bj s h0];simp
  ·rw[if_neg h0]
   have:(bl s).isEmpty=false:=by rw[aL];exact dF h0
   rw[this];simp
theorem FV {c:aT}(h:eZ c=false):fV c=false:=by
 unfold fV;unfold eZ at h;rw[h];simp
theorem Dq {c:aT}(h:zt c.lt=false):fV c=false:=by unfold fV;rw[h];simp
theorem Mo (c:bG)(w:World)(hc:c.ok w)(hf:c.few):
  Calls Tryz.prog 83 #[c.val] w fun e w'=>e=.returned (.int .i64 (uV c.plain))∧Below w.heap.size w w':=by
 have HC:=ae hc;have HF:=ae hf
 clear hc hf
 have hlen:=HF.out.len
 have ltz:=HF.out.lt;have prz:=HF.out.pre
 obtain⟨W0,hW0⟩:∃ W0,w.alloc (.cells #[.int .i64 c.ep,.slice c.na c.nums.length c.nc,.string c.lt,.string c.pre,.int .i64 c.pnum,.int .i64 c.rev] 95)=W0:=⟨_,rfl⟩
 have R0:Hid (Ek w W0 c):=by show Ek _ _ _;rw[←hW0];exact⟨bR.alloc lr _,aF.new w c.cells _⟩
 have k0:=R0.out.box.cell 0 _ rfl
 have k1:=R0.out.box.cell 1 _ rfl
 have k3:=R0.out.box.cell 3 _ rfl
 have k4:=R0.out.box.cell 4 _ rfl
 have k5:=R0.out.box.cell 5 _ rfl
 unfold bG.val
 by_cases hn0:c.nums.length=0
 ·have d1:decide ((c.nums.length:Int)<1)=true:=dT (by omega)
  have E:=ae (dx (Be (c:=c.plain) (List.length_eq_zero_iff.1 hn0)))
  clear hn0
  go_enter Tryz.func83,Tryz.ntmps83
  go_wp2_with fail
  go_ret
  exact⟨az E.out.symm,R0.out.bel⟩
 have d1:decide ((c.nums.length:Int)<1)=false:=dF (by omega)
 have HN0:Hid (c.plain.nums≠[]):=by intro e;apply hn0;rw[show c.nums=[] from e];rfl
 clear hn0
 by_cases hn64:64<c.nums.length
 ·have d2:decide ((64:Int)<(c.nums.length:Int))=true:=dT (by omega)
  have d3:decide (64<c.nums.length)=true:=dT hn64
  have E:=ae (dx (Bm (c:=c.plain) hn64))
  clear hn64
  go_enter Tryz.func83,Tryz.ntmps83
  go_wp2_with fail
  go_ret
  exact⟨az E.out.symm,R0.out.bel⟩
 have d2:decide ((64:Int)<(c.nums.length:Int))=false:=dF (by omega)
 have d3:decide (64<c.nums.length)=false:=dF hn64
 have h64:c.nums.length≤64:=by omega
 clear hn64
 by_cases hep:c.ep≤999999999
 rotate_left
 ·have Nep:=ae fun W=>fH c.ep W
  rw[dF hep] at Nep
  have E:=ae (dx (mf (c:=c.plain) (x:=c.ep) (by simp[bG.plain]) hep))
  clear hep
  go_enter Tryz.func83,Tryz.ntmps83
  go_wp2_with fail
  refine(Nep.out _).mono ?_;rintro e w' ⟨rfl,rfl⟩
  go_wp2_with fail
  go_ret
  exact⟨az E.out.symm,R0.out.bel⟩
 have Nep:=ae fun W=>fH c.ep W
 rw[dT hep] at Nep
 have Xep:=ae hep
 clear hep
 by_cases hpnum:c.pnum≤999999999
 rotate_left
 ·have Npnum:=ae fun W=>fH c.pnum W
  rw[dF hpnum] at Npnum
  have E:=ae (dx (mf (c:=c.plain) (x:=c.pnum) (by simp[bG.plain]) hpnum))
  clear hpnum
  go_enter Tryz.func83,Tryz.ntmps83
  go_wp2_with fail
  refine(Nep.out _).mono ?_;rintro e w' ⟨rfl,rfl⟩
  go_wp2_with fail
  refine(Npnum.out _).mono ?_;rintro e w' ⟨rfl,rfl⟩
  go_wp2_with fail
  go_ret
  exact⟨az E.out.symm,R0.out.bel⟩
 have Npnum:=ae fun W=>fH c.pnum W
 rw[dT hpnum] at Npnum
 have Xpnum:=ae hpnum
 clear hpnum
 by_cases hrev:c.rev≤999999999
 rotate_left
 ·have Nrev:=ae fun W=>fH c.rev W
  rw[dF hrev] at Nrev
  have E:=ae (dx (mf (c:=c.plain) (x:=c.rev) (by simp[bG.plain]) hrev))
  clear hrev
  go_enter Tryz.func83,Tryz.ntmps83
  go_wp2_with fail
  refine(Nep.out _).mono ?_;rintro e w' ⟨rfl,rfl⟩
  go_wp2_with fail
  refine(Npnum.out _).mono ?_;rintro e w' ⟨rfl,rfl⟩
  go_wp2_with fail
  refine(Nrev.out _).mono ?_;rintro e w' ⟨rfl,rfl⟩
  go_wp2_with fail
  go_ret
  exact⟨az E.out.symm,R0.out.bel⟩
 have Nrev:=ae fun W=>fH c.rev W
 rw[dT hrev] at Nrev
 have Xrev:=ae hrev
 clear hrev
 have HRK:=ae (Mn c.pre)
 obtain⟨rb,hrb⟩:∃ rb,decide (pH c.pre<0)=rb:=⟨_,rfl⟩
 have HRB:=ae hrb
 cases rb
 rotate_left
 ·have E:=ae (dx (c:=c.plain) (FV (by
   have h1:=HRK.out;rw[HRB.out] at h1
   unfold eZ
   show((bl c.pre).isEmpty&&decide (c.pnum=0)||bu.contains (bl c.pre))=false
   revert h1;cases(bl c.pre).isEmpty<;>cases bu.contains (bl c.pre)<;>simp)))
  go_enter Tryz.func83,Tryz.ntmps83
  go_wp2_with fail
  refine(Nep.out _).mono ?_;rintro e w' ⟨rfl,rfl⟩
  go_wp2_with fail
  refine(Npnum.out _).mono ?_;rintro e w' ⟨rfl,rfl⟩
  go_wp2_with fail
  refine(Nrev.out _).mono ?_;rintro e w' ⟨rfl,rfl⟩
  go_wp2_with fail
  refine(FQ c.pre _).mono ?_;rintro e w1 ⟨rfl,hb1⟩
  have R1:=ae (R0.out.step hb1)
  clear hb1 k0 k1 k3 k4 k5
  have k3:=R1.out.box.cell 3 _ rfl
  have k4:=R1.out.box.cell 4 _ rfl
  go_wp2_with fail
  go_ret
  exact⟨az E.out.symm,R1.out.bel⟩
 obtain⟨pb,hpb⟩:∃ pb,c.pre.toList.isEmpty=pb:=⟨_,rfl⟩
 have HPB:Hid ((bl c.pre).isEmpty=pb):=by show _=_;rw[←ai];exact hpb
 obtain⟨zb,hzb⟩:∃ zb,decide (c.pnum=0)=zb:=⟨_,rfl⟩
 have HZB:=ae hzb
 have hz2:((c.pnum:Int) != 0)=!zb:=by
  cases zb
  ·have:=of_decide_eq_false hzb;simp[bne];omega
  ·have:=dO hzb;rw[this];rfl
 clear hzb
 have HPO:Hid (eZ c.plain=(!pb||zb)):=by
  show _=_
  have h1:=HRK.out;rw[HRB.out,HPB.out] at h1
  unfold eZ
  show((bl c.pre).isEmpty&&decide (c.pnum=0)||bu.contains (bl c.pre))=_
  rw[HPB.out,HZB.out]
  revert h1
  cases hq:bu.contains (bl c.pre)<;>cases pb<;>cases zb<;>simp
  exact absurd hq (by rw[show bl c.pre=[] from List.isEmpty_iff.1 HPB.out];decide)
 go_enter Tryz.func83,Tryz.ntmps83
 go_upto_region 1 with(fail)
 clear hW0
 go_cut [47] (fun s wx=>∃ bb:Bool,s=.bool bb∧Hid (bb=!eZ c.plain)∧Hid (Ek w wx c))
 case first=>
  go_wp2_with fail
  refine(Nep.out _).mono ?_;rintro e w' ⟨rfl,rfl⟩
  go_wp2_with fail
  refine(Npnum.out _).mono ?_;rintro e w' ⟨rfl,rfl⟩
  go_wp2_with fail
  refine(Nrev.out _).mono ?_;rintro e w' ⟨rfl,rfl⟩
  go_wp2_with fail
  refine(FQ c.pre _).mono ?_;rintro e w1 ⟨rfl,hb1⟩
  have R1:=ae (R0.out.step hb1)
  clear hb1 k0 k1 k3 k4 k5
  have k3:=R1.out.box.cell 3 _ rfl
  have k4:=R1.out.box.cell 4 _ rfl
  cases pb
  ·have E:Hid (false=!eZ c.plain):=by show _=_;rw[HPO.out];rfl
   go_wp2_with fail
   go_meet
   exact⟨_,rfl,E,R1⟩
  ·cases zb
   ·have E:Hid (true=!eZ c.plain):=by show _=_;rw[HPO.out];rfl
    go_wp2_with fail
    go_meet
    exact⟨_,rfl,E,R1⟩
   ·have E:Hid (false=!eZ c.plain):=by show _=_;rw[HPO.out];rfl
    go_wp2_with fail
    go_meet
    exact⟨_,rfl,E,R1⟩
 case rest=>
 obtain⟨bb,rfl,HBB,R1⟩:=hcut
 clear hz2 hpb hrb k0 k1 k3 k4 k5 R0
 cases bb
 rotate_left
 ·have E:=ae (dx (c:=c.plain) (FV (by have:=HBB.out;revert this;cases eZ c.plain<;>simp)))
  go_wp2_with fail
  go_ret
  exact⟨az E.out.symm,R1.out.bel⟩
 have HP:Hid (eZ c.plain=true):=by have:=HBB.out;show _=_;revert this;cases eZ c.plain<;>simp
 go_wp2_with fail
 go_loopw [2,3] (fun _ i wr=>∃ k:Nat,k≤c.nums.length∧i=.int .i64 k∧Hid (∀ x∈c.nums.take k,x≤999999999)∧wr=wc) (fun _ i _=>c.nums.length-(intOf i).toNat)
 case atStart=>exact⟨0,z0,rfl,by simp[Hid],by trivial⟩
 case round=>
  obtain⟨k,hk,rfl,HT,rfl⟩:=hrel
  have k1:=R1.out.box.cell 1 _ rfl
  by_cases hlt:k<c.nums.length
  ·obtain⟨x,hx⟩:∃ x,c.nums[k]?=some x:=⟨_,gG hlt⟩
   obtain⟨b,off,hA,he⟩:=(Rd.below HC.out R1.out.bel).num k x hx
   have hix:=fun W=>aH (T:=93) (E:=3) (sz:=1) (c:=c.nc) Tryz.underlying93 rfl Tryz.sizeOf3 hA hlt W
   simp only[Nat.mul_one] at hix
   have HX:=ae hx
   clear hx hA
   have NX:=ae fun W=>fH x W
   by_cases hbig:x≤999999999
   ·rw[dT hbig] at NX
    have HB:=ae hbig
    clear hbig
    go_wp2_with fail
    refine(NX.out _).mono ?_;rintro e w' ⟨rfl,rfl⟩
    go_wp2_with fail
    go_roundw
    case rel=>exact⟨k+1,by omega,by go_num,ae (fun y hy=>by
     obtain⟨hk',hf'⟩:=gS HX.out
     rw[tS hk',hf'] at hy
     rcases List.mem_append.1 hy with hy | hy
     ·exact HT.out y hy
     ·rw[List.mem_singleton.1 hy];exact HB.out),by trivial⟩
    case measure=>simp[intOf];omega
   ·rw[dF hbig] at NX
    have E:=ae (dx (mf (c:=c.plain) (x:=x) (List.mem_append_right _ (gM HX.out)) hbig))
    clear hbig
    go_wp2_with fail
    refine(NX.out _).mono ?_;rintro e w' ⟨rfl,rfl⟩
    go_wp2_with fail
    go_ret
    exact⟨az E.out.symm,R1.out.bel⟩
  ·have HALL:Hid (fV c.plain=(zt (bl c.lt)&&(eZ c.plain&&decide ((aN 1 c.plain).length≤64)))):=
    xd HN0.out (fun x hx=>by
     rcases List.mem_append.1 hx with hx | hx
     ·simp only[List.mem_cons,List.not_mem_nil,or_false] at hx
      rcases hx with rfl | rfl | rfl
      ·exact Xep.out
      ·exact Xpnum.out
      ·exact Xrev.out
     ·exact HT.out x (by rw[tL (by omega)];exact hx))
   have k2:=R1.out.box.cell 2 _ rfl
   have k0:=R1.out.box.cell 0 _ rfl
   have k3:=R1.out.box.cell 3 _ rfl
   have k4:=R1.out.box.cell 4 _ rfl
   have k5:=R1.out.box.cell 5 _ rfl
   by_cases p2:1<c.lt.size
   ·have d4:decide ((1:Int)<(c.lt.size:Int))=true:=dT (by omega)
    have d5:decide (1<c.lt.size)=true:=dT p2
    have E:=ae (dx (c:=c.plain) (Dq (by
     show zt (bl c.lt)=false
     have hl:=af c.lt
     match h:bl c.lt with
     | []=>rw[h] at hl;simp at hl;omega
     | [b]=>rw[h] at hl;simp at hl;omega
     | a::b::r=>rfl)))
    clear p2
    go_wp2_with fail
    go_ret
    exact⟨az E.out.symm,R1.out.bel⟩
   have d4:decide ((1:Int)<(c.lt.size:Int))=false:=dF (by omega)
   have d5:decide (1<c.lt.size)=false:=dF p2
   by_cases p1:c.lt.size=1
   ·have d6:((c.lt.size:Int)==1)=true:=by rw[p1];rfl
    have hpos:0<c.lt.size:=by omega
    have LB:Hid (zt (bl c.lt)=be c.lt[0]):=by
     show _=_
     have ht:(bl c.lt).tail=[]:=by rw[←List.drop_one];exact List.drop_of_length_le (by rw[af];omega)
     rw[dZ c.lt hpos,ht];rfl
    obtain⟨ch,hch⟩:∃ ch,c.lt[0]=ch:=⟨_,rfl⟩
    rw[hch] at LB
    by_cases q1:ch.toNat<97
    ·have d7:decide ((ch.toNat:Int)<97)=true:=dT (by omega)
     have d8:decide (ch.toNat<97)=true:=dT q1
     have E:=ae (dx (c:=c.plain) (Dq (by show zt (bl c.lt)=false;rw[LB.out];unfold be;exact dF (by omega))))
     clear p1 p2 q1
     go_wp2_with fail
     go_ret
     exact⟨az E.out.symm,R1.out.bel⟩
    have d7:decide ((ch.toNat:Int)<97)=false:=dF (by omega)
    have d8:decide (ch.toNat<97)=false:=dF q1
    by_cases q2:122<ch.toNat
    ·have d9:decide ((122:Int)<(ch.toNat:Int))=true:=dT (by omega)
     have dA:decide (122<ch.toNat)=true:=dT q2
     have E:=ae (dx (c:=c.plain) (Dq (by show zt (bl c.lt)=false;rw[LB.out];unfold be;exact dF (by omega))))
     clear p1 p2 q1 q2
     go_wp2_with fail
     go_ret
     exact⟨az E.out.symm,R1.out.bel⟩
    have d9:decide ((122:Int)<(ch.toNat:Int))=false:=dF (by omega)
    have dA:decide (122<ch.toNat)=false:=dF q2
    have HB:Hid (zt (bl c.lt)=true):=by show _=_;rw[LB.out];unfold be;exact dT (by omega)
    clear p1 p2 q1 q2 LB
    go_wp2_with fail
    refine(rT 1 c _ (Rd.below HC.out R1.out.bel) HF.out h64 (by intro h;cases h)).mono ?_;rintro e w4 ⟨rfl,hb4⟩
    have B4:=ae (ah R1.out.bel hb4)
    clear hb4 k0 k1 k2 k3 k4 k5
    obtain⟨T,hT⟩:∃ T:BA,(⟨(aN 1 c.plain).toArray⟩:BA)=T:=⟨_,rfl⟩
    have hTs:Hid ((aN 1 c.plain).length=T.size):=by show _=_;rw[←hT];simp[ByteArray.size]
    rw[hT]
    clear hT
    by_cases h64:64<T.size
    ·have d1:decide ((64:Int)<(T.size:Int))=true:=dT (by omega)
     have d2:decide (64<T.size)=true:=dT h64
     have E:=ae (dx (c:=c.plain) (by rw[HALL.out,HB.out,HP.out,dF (by rw[hTs.out];omega)];rfl))
     go_wp2_with fail
     go_ret
     exact⟨az E.out.symm,B4.out⟩
    ·have d1:decide ((64:Int)<(T.size:Int))=false:=dF (by omega)
     have d2:decide (64<T.size)=false:=dF h64
     have E:Hid (uV c.plain=0):=by show _=_;unfold uV;rw[if_pos (by rw[HALL.out,HB.out,HP.out,dT (by rw[hTs.out];omega)];rfl)]
     go_wp2_with fail
     go_ret
     exact⟨az E.out.symm,B4.out⟩
   ·have d6:((c.lt.size:Int)==1)=false:=beq_eq_false_iff_ne.2 (by omega)
    have HB:Hid (zt (bl c.lt)=true):=by show _=_;rw[bj c.lt (by omega)];rfl
    clear p1 p2
    go_wp2_with fail
    refine(rT 1 c _ (Rd.below HC.out R1.out.bel) HF.out h64 (by intro h;cases h)).mono ?_;rintro e w4 ⟨rfl,hb4⟩
    have B4:=ae (ah R1.out.bel hb4)
    clear hb4 k0 k1 k2 k3 k4 k5
    obtain⟨T,hT⟩:∃ T:BA,(⟨(aN 1 c.plain).toArray⟩:BA)=T:=⟨_,rfl⟩
    have hTs:Hid ((aN 1 c.plain).length=T.size):=by show _=_;rw[←hT];simp[ByteArray.size]
    rw[hT]
    clear hT
    by_cases h64:64<T.size
    ·have d1:decide ((64:Int)<(T.size:Int))=true:=dT (by omega)
     have d2:decide (64<T.size)=true:=dT h64
     have E:=ae (dx (c:=c.plain) (by rw[HALL.out,HB.out,HP.out,dF (by rw[hTs.out];omega)];rfl))
     go_wp2_with fail
     go_ret
     exact⟨az E.out.symm,B4.out⟩
    ·have d1:decide ((64:Int)<(T.size:Int))=false:=dF (by omega)
     have d2:decide (64<T.size)=false:=dF h64
     have E:Hid (uV c.plain=0):=by show _=_;unfold uV;rw[if_pos (by rw[HALL.out,HB.out,HP.out,dT (by rw[hTs.out];omega)];rfl)]
     go_wp2_with fail
     go_ret
     exact⟨az E.out.symm,B4.out⟩
theorem Bn (fmt:Int)(hfm:dk fmt)(c:bG)(w:World)(hc:c.ok w)(hf:c.few):
  Calls Tryz.prog 52 #[.int .i64 fmt,c.val] w fun e w'=>e=.returned (jN (qi fmt c.plain))∧Below w.heap.size w w':=by
 have HC:=ae hc;have HF:=ae hf;have HFM:=ae hfm
 clear hc hf
 have d1:decide (fmt<1)=false:=dF (by unfold dk at hfm;omega)
 have d3:decide (3<fmt)=false:=dF (by unfold dk at hfm;omega)
 clear hfm
 obtain⟨W0,hW0⟩:∃ W0,w.alloc (.cells #[.int .i64 c.ep,.slice c.na c.nums.length c.nc,.string c.lt,.string c.pre,.int .i64 c.pnum,.int .i64 c.rev] 95)=W0:=⟨_,rfl⟩
 have R0:Hid (Ek w W0 c):=by show Ek _ _ _;rw[←hW0];exact⟨bR.alloc lr _,aF.new w c.cells _⟩
 have k0:=R0.out.box.cell 0 _ rfl
 have k1:=R0.out.box.cell 1 _ rfl
 have k2:=R0.out.box.cell 2 _ rfl
 have k3:=R0.out.box.cell 3 _ rfl
 have k4:=R0.out.box.cell 4 _ rfl
 have k5:=R0.out.box.cell 5 _ rfl
 unfold bG.val
 go_enter Tryz.func52,Tryz.ntmps52
 go_wp2_with fail
 clear hW0
 refine(Mo c _ (Rd.below HC.out R0.out.bel) HF.out).mono ?_;rintro e w1 ⟨rfl,hb1⟩
 have R1:=ae (R0.out.step hb1)
 clear hb1 k0 k1 k2 k3 k4 k5 R0
 unfold uV
 cases hcb:fV c.plain
 ·have E:=ae (nI (Bf (fmt:=fmt) hcb))
  clear hcb
  simp only[Bool.false_eq_true,if_false]
  go_wp2_with fail
  go_ret2
  exact⟨by rw[E.out];rfl,R1.out.bel⟩
 have HCB:=ae hcb
 have h64:c.nums.length≤64:=by
  apply Classical.byContradiction;intro hn
  have:=Bm (c:=c.plain) (by show 64<c.nums.length;omega)
  rw[hcb] at this;cases this
 clear hcb
 simp only[if_true]
 have k0:=R1.out.box.cell 0 _ rfl
 have k1:=R1.out.box.cell 1 _ rfl
 have k2:=R1.out.box.cell 2 _ rfl
 have k3:=R1.out.box.cell 3 _ rfl
 have k4:=R1.out.box.cell 4 _ rfl
 have k5:=R1.out.box.cell 5 _ rfl
 by_cases h3:fmt=3∧c.ep≠0
 ·have q3:(fmt==3)=true:=by rw[h3.1];rfl
  have qe:((c.ep:Int) != 0)=true:=by have:=h3.2;simp[bne];omega
  have E:=ae (nI (fmt:=fmt) (c:=c.plain) (by unfold ct;rw[HCB.out,dT (p:=fmt=3∧c.plain.ep≠0) h3];rfl))
  clear h3
  go_wp2_with fail
  go_ret2
  exact⟨by rw[E.out];rfl,R1.out.bel⟩
 have H3:Hid (fmt=3→c.ep=0):=by
  intro e;apply Classical.byContradiction;intro hn;exact h3 ⟨e,hn⟩
 have HP0:Hid (ct fmt c.plain=decide ((aN fmt c.plain).length≤64)):=by
  show _=_;unfold ct;rw[HCB.out,dF (p:=fmt=3∧c.plain.ep≠0) h3];rfl
 have e3:(fmt==3)=false∨(fmt==3)=true∧((c.ep:Int) != 0)=false:=by
  by_cases e:fmt=3
  ·right;refine⟨by rw[e];rfl,?_⟩;rw[H3.out e];rfl
  ·left;simpa using e
 clear h3
 rcases e3 with q3 | ⟨q3,qe⟩
 all_goals
  go_wp2_with fail
  refine(rT fmt c _ (Rd.below HC.out R1.out.bel) HF.out h64 H3.out).mono ?_;rintro e w2 ⟨rfl,hb2⟩
  have R2:=ae (R1.out.step hb2)
  clear hb2 k0 k1 k2 k3 k4 k5
  have TX:=ae (rT fmt c _ (Rd.below HC.out R2.out.bel) HF.out h64 H3.out)
  obtain⟨T,hT⟩:∃ T:BA,(⟨(aN fmt c.plain).toArray⟩:BA)=T:=⟨_,rfl⟩
  have hTs:Hid ((aN fmt c.plain).length=T.size):=by show _=_;rw[←hT];simp[ByteArray.size]
  have HT:=ae hT
  rw[hT] at TX
  rw[hT]
  clear hT
  have k0:=R2.out.box.cell 0 _ rfl
  have k1:=R2.out.box.cell 1 _ rfl
  have k2:=R2.out.box.cell 2 _ rfl
  have k3:=R2.out.box.cell 3 _ rfl
  have k4:=R2.out.box.cell 4 _ rfl
  have k5:=R2.out.box.cell 5 _ rfl
  by_cases hbig:64<T.size
  ·have d4:decide ((64:Int)<(T.size:Int))=true:=dT (by omega)
   have d5:decide (64<T.size)=true:=dT hbig
   have E:=ae (nI (fmt:=fmt) (c:=c.plain) (by rw[HP0.out];exact dF (by rw[hTs.out];omega)))
   clear hbig
   go_wp2_with fail
   go_ret2
   exact⟨by rw[E.out];rfl,R2.out.bel⟩
  ·have d4:decide ((64:Int)<(T.size:Int))=false:=dF (by omega)
   have d5:decide (64<T.size)=false:=dF hbig
   have E:=ae (rI (fmt:=fmt) (c:=c.plain) (by rw[HP0.out];exact dT (by rw[hTs.out];omega)))
   clear hbig
   go_wp2_with fail
   refine TX.out.mono ?_;rintro e w3 ⟨rfl,hb3⟩
   have B3:=ae (ah R2.out.bel hb3)
   clear hb3
   go_wp2_with fail
   go_ret2
   exact⟨by rw[E.out,HT.out];rfl,B3.out⟩
end
end Go.Proofs.YtkjdbpjglobbjaaGreatDoor
