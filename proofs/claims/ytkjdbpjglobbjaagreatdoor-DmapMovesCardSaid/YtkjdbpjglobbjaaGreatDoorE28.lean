/- A part of the proof of a law on dependencies in three formats. No condition. -/
import Derived.Test.YtkjdbpjglobbjaaGreatDoorE26
import Derived.Test.YtkjdbpjglobbjaaGreatDoorE27
set_option maxRecDepth 100000
set_option maxHeartbeats 20000000
set_option linter.unusedVariables false
set_option linter.unusedSimpArgs false
namespace Go.Proofs.YtkjdbpjglobbjaaGreatDoor
section
open Go.RowKit
def uV (c:aT):Int:=if fV c=true then 0 else 11
theorem dx {c:aT}(h:fV c=false):uV c=11:=by unfold uV;rw[if_neg (by rw[h];simp)]
def eZ (c:aT):Bool:=(c.pre.isEmpty&&decide (c.pnum=0))||bu.contains c.pre
theorem Be {c:aT}(h:c.nums=[]):fV c=false:=by unfold fV;rw[h];rfl
theorem mf {c:aT}{x:Nat}(hx:x∈[c.ep,c.pnum,c.rev]++c.nums)(h:¬ x≤999999999):fV c=false:=by
 cases hb:fV c with
 | false=>rfl
 | true=>
  have ok:=(lP c).1 hb
  rw[List.mem_append] at hx
  rcases hx with hx | hx
  ·simp only[List.mem_cons,List.not_mem_nil,or_false] at hx
   rcases hx with rfl | rfl | rfl
   ·exact absurd ok.ep h
   ·exact absurd ok.pnum h
   ·exact absurd ok.rev h
  ·exact absurd (ok.each x hx) h
theorem xd {c:aT}(h0:c.nums≠[])(hn:∀ x∈[c.ep,c.pnum,c.rev]++c.nums,x≤999999999):fV c=(zt c.lt&&(eZ c&&decide ((aN 1 c).length≤64))):=by
 unfold fV eZ
 have e1:c.nums.isEmpty=false:=by cases h:c.nums with | nil=>exact absurd h h0 | cons a r=>rfl
 have e2:(c.nums.all fun n=>decide (n≤999999999))=true:=by rw[List.all_eq_true];intro x hx;exact dT (hn x (List.mem_append_right _ hx))
 have e3:=hn c.ep (by simp)
 have e4:=hn c.pnum (by simp)
 have e5:=hn c.rev (by simp)
 rw[e1,e2,dT e3,dT e4,dT e5];simp
structure Ek (w wr:World) (c:bG):Prop where
 bel:Below w.heap.size w wr
 box:aF wr w.heap.size c.cells
theorem Ek.step {w wr w':World}{c:bG}(h:Ek w wr c)(hb:Below wr.heap.size wr w'):Ek w w' c:=⟨ah h.bel hb,h.box.below hb⟩
theorem Rd.three (w:World)(a b d:Nat):Rd (w.alloc (.cells #[.int .i64 a,.int .i64 b,.int .i64 d] 3)) 1 (some ⟨w.heap.size,0,none⟩) [a,b,d].length (bZ [a,b,d]):=by
 refine⟨rfl,fun _=>⟨_,_,rfl,fun j u hu=>?_⟩⟩
 have:=(aF.new w (bZ [a,b,d]) 3).cell j u hu
 simpa [bZ] using this
theorem IN (c:bG)(w:World)(hG:Hr w)(hc:c.ok w)(hf:c.few):
  Calls Tryz.prog 76 #[c.val] w fun e w'=>e=.returned (.int .i64 (uV c.plain))∧Below w.heap.size w w':=by
 have HG:=ae hG;have HC:=ae hc;have HF:=ae hf
 clear hG hc hf
 have hlen:=HF.out.len
 obtain⟨W0,hW0⟩:∃ W0,w.alloc (.cells #[.int .i64 c.ep,.slice c.na c.nums.length c.nc,.string c.lt,.string c.pre,.int .i64 c.pnum,.int .i64 c.rev] 95)=W0:=⟨_,rfl⟩
 have R0:Hid (Ek w W0 c):=by show Ek _ _ _;rw[←hW0];exact⟨bR.alloc lr _,aF.new w c.cells _⟩
 have k0:=R0.out.box.cell 0 _ rfl
 have k1:=R0.out.box.cell 1 _ rfl
 have k4:=R0.out.box.cell 4 _ rfl
 have k5:=R0.out.box.cell 5 _ rfl
 unfold bG.val
 by_cases hn0:c.nums.length=0
 ·have q:((c.nums.length:Int)==0)=true:=by rw[hn0];rfl
  have E:=ae (dx (Be (c:=c.plain) (List.length_eq_zero_iff.1 hn0)))
  clear hn0
  go_enter Tryz.func76,Tryz.ntmps76
  go_wp2_with fail
  go_ret
  exact⟨az E.out.symm,R0.out.bel⟩
 have q:((c.nums.length:Int)==0)=false:=beq_eq_false_iff_ne.2 (by omega)
 have HN0:Hid (c.plain.nums≠[]):=by intro e;apply hn0;rw[show c.nums=[] from e];rfl
 clear hn0
 obtain⟨W1,hW1⟩:∃ W1,W0.alloc (.cells #[.int .i64 c.ep,.int .i64 c.pnum,.int .i64 c.rev] 3)=W1:=⟨_,rfl⟩
 obtain⟨W2,hW2⟩:∃ W2,W1.alloc (.cells #[.slice (some ⟨W0.heap.size,0,none⟩) 3 3,.slice c.na c.nums.length c.nc] 93)=W2:=⟨_,rfl⟩
 have B1:Hid (Below W0.heap.size W0 W1):=by rw[←hW1];exact bR.alloc lr _
 have B2:Hid (Below W1.heap.size W1 W2):=by rw[←hW2];exact bR.alloc lr _
 have D3:Hid (Rd W1 1 (some ⟨W0.heap.size,0,none⟩) [c.ep,c.pnum,c.rev].length (bZ [c.ep,c.pnum,c.rev])):=by show Rd _ _ _ _ _;rw[←hW1];exact Rd.three W0 c.ep c.pnum c.rev
 have K2:Hid (aF W2 W1.heap.size [.slice (some ⟨W0.heap.size,0,none⟩) 3 3,.slice c.na c.nums.length c.nc]):=by show aF _ _ _;rw[←hW2];exact aF.new W1 [.slice (some ⟨W0.heap.size,0,none⟩) 3 3,.slice c.na c.nums.length c.nc] _
 have R2:=ae ((R0.out.step B1.out).step B2.out)
 have k1':W1.cell? ⟨w.heap.size,1,none⟩=some (.slice c.na c.nums.length c.nc):=(R0.out.step B1.out).box.cell 1 _ rfl
 go_enter Tryz.func76,Tryz.ntmps76
 go_wp2_with fail
 refine(IM W1.heap.size (some ⟨W0.heap.size,0,none⟩) c.na 3 c.nc [c.ep,c.pnum,c.rev] c.nums W2 (K2.out.cell 0 _ rfl) (K2.out.cell 1 _ rfl) (D3.out.below B2.out) (Rd.below HC.out R2.out.bel) (by simp) (by simp) (by omega)).mono ?_
 rintro e w3 ⟨R,cap,rfl,hR,hb3⟩
 have RL:=ae hR
 have R3:=ae (R2.out.step hb3)
 clear hR hb3 k0 k1 k4 k5 k1' hW0 hW1 hW2 R0 R2 B1 B2 D3 K2 q
 obtain⟨L,hL⟩:∃ L,[c.ep,c.pnum,c.rev]++c.nums=L:=⟨_,rfl⟩
 have HL:=ae hL
 have hLl:L.length≤1003:=by rw[←hL];simp;omega
 rw[hL] at RL
 rw[hL]
 clear hL
 have HLB:Hid (∀ x∈L,x≤4611686018427387903):=by
  intro x hx;rw[←HL.out,List.mem_append] at hx
  rcases hx with hx | hx
  ·simp only[List.mem_cons,List.not_mem_nil,or_false] at hx
   rcases hx with rfl | rfl | rfl
   ·exact HF.out.ep
   ·exact HF.out.pnum
   ·exact HF.out.rev
  ·exact HF.out.each x hx
 go_wp2_with fail
 go_loopw [21] (fun i wr=>∃ k:Nat,k≤L.length∧i=.int .i64 k∧Hid (∀ x∈L.take k,x≤999999999)∧wr=w3) (fun i _=>L.length-(intOf i).toNat)
 case atStart=>exact⟨0,z0,rfl,by simp[Hid],rfl⟩
 case round=>
  obtain⟨k,hk,rfl,HT,rfl⟩:=hrel
  by_cases hlt:k<L.length
  ·obtain⟨x,hx⟩:∃ x,L[k]?=some x:=⟨_,gG hlt⟩
   obtain⟨b,off,hA,he⟩:=RL.out.num k x hx
   have hix:=fun W=>aH (T:=93) (E:=3) (sz:=1) (c:=cap) Tryz.underlying93 rfl Tryz.sizeOf3 hA hlt W
   simp only[Nat.mul_one] at hix
   have HX:=ae hx
   have hxs:=HLB.out x (gM hx)
   clear hx hA
   have d1:decide ((x:Int)<0)=false:=dF (by omega)
   by_cases hbig:x≤999999999
   ·have d2:decide ((999999999:Int)<(x:Int))=false:=dF (by omega)
    have d3:decide (999999999<x)=false:=dF (by omega)
    have HB:=ae hbig
    clear hbig
    go_wp2_with fail
    go_roundw
    case rel=>exact⟨k+1,by omega,by go_num,ae (fun y hy=>by
     obtain⟨hk',hf'⟩:=gS HX.out
     rw[tS hk',hf'] at hy
     rcases List.mem_append.1 hy with hy | hy
     ·exact HT.out y hy
     ·rw[List.mem_singleton.1 hy];exact HB.out),by trivial⟩
    case measure=>simp[intOf];omega
   ·have d2:decide ((999999999:Int)<(x:Int))=true:=dT (by omega)
    have d3:decide (999999999<x)=true:=dT (by omega)
    have E:=ae (dx (mf (c:=c.plain) (x:=x) (by rw[show[c.plain.ep,c.plain.pnum,c.plain.rev]++c.plain.nums=L from HL.out];exact gM HX.out) hbig))
    clear hbig
    go_wp2_with fail
    go_ret
    exact⟨az E.out.symm,R3.out.bel⟩
  ·have HALL:Hid (fV c.plain=(zt (bl c.lt)&&(eZ c.plain&&decide ((aN 1 c.plain).length≤64)))):=
    xd HN0.out (fun x hx=>HT.out x (by rw[tL (by omega)];rw[←HL.out];exact hx))
   have k2:=R3.out.box.cell 2 _ rfl
   have k3:=R3.out.box.cell 3 _ rfl
   have k4:=R3.out.box.cell 4 _ rfl
   have ltz:=HF.out.lt;have prz:=HF.out.pre
   go_upto_region 9 with(fail)
   go_cut [47] (fun s wx=>∃ bb:Bool,s=.bool bb∧Hid (bb=!zt (bl c.lt))∧wr=wx)
   case first=>
    obtain⟨pb,hpb⟩:∃ pb,c.lt.toList.isEmpty=pb:=⟨_,rfl⟩
    cases pb
    rotate_left
    ·have p0:c.lt.size=0:=by rw[ai,aL] at hpb;exact dO hpb
     have E:Hid (false=!zt (bl c.lt)):=by show _=_;rw[bj c.lt p0];rfl
     clear p0
     go_wp2_with fail
     go_meet
     exact⟨false,rfl,E,rfl⟩
    ·have p0:¬ c.lt.size=0:=by intro h;rw[ai,aL,dT h] at hpb;cases hpb
     by_cases p1:c.lt.size=1
     ·have d1:((c.lt.size:Int) != 1)=false:=by rw[p1];rfl
      have hpos:0<c.lt.size:=by omega
      have E:Hid ((!be c.lt[0])=!zt (bl c.lt)):=by
       show _=_
       have ht:(bl c.lt).tail=[]:=by rw[←List.drop_one];exact List.drop_of_length_le (by rw[af];omega)
       rw[dZ c.lt hpos,ht];rfl
      clear p0 p1
      go_wp2_with fail
      refine(wh c.lt[0] _).mono ?_;rintro e w' ⟨rfl,rfl⟩
      go_wp2_with fail
      go_meet
      exact⟨_,rfl,E,rfl⟩
     ·have d1:((c.lt.size:Int) != 1)=true:=by simp[bne];omega
      have E:Hid (true=!zt (bl c.lt)):=by
       show _=_
       have hl:=af c.lt
       match h:bl c.lt with
       | []=>rw[h] at hl;simp at hl;omega
       | [b]=>rw[h] at hl;simp at hl;omega
       | a::b::r=>rfl
      clear p0 p1
      go_wp2_with fail
      go_meet
      exact⟨true,rfl,E,rfl⟩
   case rest=>
   obtain⟨bb,rfl,HB1,rfl⟩:=hcut
   clear k2
   cases bb
   case true=>
    have E:=ae (dx (c:=c.plain) (by rw[HALL.out];have:=HB1.out;revert this;cases zt (bl c.lt)<;>simp))
    go_wp2_with fail
    go_ret
    exact⟨az E.out.symm,R3.out.bel⟩
   have HB:Hid (zt (bl c.lt)=true):=by have:=HB1.out;show _=_;revert this;cases zt (bl c.lt)<;>simp
   clear HB1
   go_upto_region 11 with(fail)
   go_cut [66] (fun s wx=>∃ bb:Bool,s=.bool bb∧Hid (bb=!eZ c.plain)∧wr=wx)
   case first=>
    have HG3:=ae (HG.out.below R3.out.bel)
    obtain⟨pb,hpb⟩:∃ pb,c.pre.toList.isEmpty=pb:=⟨_,rfl⟩
    have HPB:=ae hpb
    cases pb
    rotate_left
    ·have p0:bl c.pre=[]:=by have:=HPB.out;rw[ai,aL] at this;exact bj c.pre (dO this)
     have E0:Hid (eZ c.plain=decide (c.pnum=0)):=by
      show _=_;unfold eZ
      rw[show c.plain.pre=[] from p0]
      show(true&&decide (c.pnum=0)||bu.contains [])=_
      rw[show bu.contains []=false from by decide];simp
     clear p0
     by_cases z0:c.pnum=0
     ·have d0:((c.pnum:Int) != 0)=false:=by rw[z0];rfl
      have E:Hid (false=!eZ c.plain):=by show _=_;rw[E0.out,dT z0];rfl
      clear z0
      go_wp2_with fail
      go_meet
      exact⟨false,rfl,E,rfl⟩
     ·have d0:((c.pnum:Int) != 0)=true:=by simp[bne];omega
      have E:Hid (true=!eZ c.plain):=by show _=_;rw[E0.out,dF z0];rfl
      clear z0
      go_wp2_with fail
      go_meet
      exact⟨true,rfl,E,rfl⟩
    ·have p0:bl c.pre≠[]:=by intro h;have:=HPB.out;rw[ai,h] at this;cases this
     have E0:Hid (eZ c.plain=decide (nH c.pre<4)):=by
      show _=_;rw[Bc];unfold eZ
      have:c.plain.pre.isEmpty=false:=by cases h:bl c.pre with | nil=>exact absurd h p0 | cons a r=>show(bl c.pre).isEmpty=false;rw[h];rfl
      rw[this];rfl
     clear p0
     have hr4:nH c.pre≤4:=by   unfold nH;repeat' split
                               all_goals omega
     by_cases z0:nH c.pre=4
     ·have d0:((nH c.pre:Int)==4)=true:=by rw[z0];rfl
      have E:Hid (true=!eZ c.plain):=by show _=_;rw[E0.out,dF];rfl
      clear z0 hr4
      go_wp2_with fail
      refine(rG c.pre _ HG3.out).mono ?_;rintro e w' ⟨rfl,rfl⟩
      go_wp2_with fail
      go_meet
      exact⟨true,rfl,E,rfl⟩
     ·have d0:((nH c.pre:Int)==4)=false:=beq_eq_false_iff_ne.2 (by omega)
      have E:Hid (false=!eZ c.plain):=by show _=_;rw[E0.out,dT];rfl
      clear z0 hr4
      go_wp2_with fail
      refine(rG c.pre _ HG3.out).mono ?_;rintro e w' ⟨rfl,rfl⟩
      go_wp2_with fail
      go_meet
      exact⟨false,rfl,E,rfl⟩
   case rest=>
   obtain⟨bb,rfl,HB1,rfl⟩:=hcut
   clear k3 k4
   cases bb
   case true=>
    have E:=ae (dx (c:=c.plain) (by rw[HALL.out,HB.out];have:=HB1.out;revert this;cases eZ c.plain<;>simp))
    go_wp2_with fail
    go_ret
    exact⟨az E.out.symm,R3.out.bel⟩
   have HP:Hid (eZ c.plain=true):=by have:=HB1.out;show _=_;revert this;cases eZ c.plain<;>simp
   clear HB1
   have k0:=R3.out.box.cell 0 _ rfl
   have k1:=R3.out.box.cell 1 _ rfl
   have k2:=R3.out.box.cell 2 _ rfl
   have k3:=R3.out.box.cell 3 _ rfl
   have k4:=R3.out.box.cell 4 _ rfl
   have k5:=R3.out.box.cell 5 _ rfl
   go_wp2_with fail
   refine(Bd 1 c _ (HG.out.below R3.out.bel) (Rd.below HC.out R3.out.bel) HF.out).mono ?_;rintro e w4 ⟨rfl,hb4⟩
   have B4:=ae (ah R3.out.bel hb4)
   clear hb4 k0 k1 k2 k3 k4 k5
   obtain⟨T,hT⟩:∃ T:BA,(⟨(aN 1 c.plain).toArray⟩:BA)=T:=⟨_,rfl⟩
   have hTs:Hid ((aN 1 c.plain).length=T.size):=by show _=_;rw[←hT];simp[ByteArray.size]
   rw[hT]
   clear hT
   by_cases h64:64<T.size
   ·have d1:decide ((64:Int)<(T.size:Int))=true:=dT (by omega)
    have d2:decide (64<T.size)=true:=dT h64
    have E:=ae (dx (c:=c.plain) (by rw[HALL.out,HB.out,HP.out,dF (by rw[hTs.out];omega)];rfl))
    go_wp2_with fail
    go_ret
    exact⟨az E.out.symm,B4.out⟩
   ·have d1:decide ((64:Int)<(T.size:Int))=false:=dF (by omega)
    have d2:decide (64<T.size)=false:=dF h64
    have E:Hid (uV c.plain=0):=by show _=_;unfold uV;rw[if_pos (by rw[HALL.out,HB.out,HP.out,dT (by rw[hTs.out];omega)];rfl)]
    go_wp2_with fail
    go_ret
    exact⟨az E.out.symm,B4.out⟩
def jN (r:LU×Int):Value:=.tuple #[.string ⟨r.1.toArray⟩,.int .i64 r.2]
theorem nI {fmt:Int}{c:aT}(h:ct fmt c=false):jN (qi fmt c)=.tuple #[.string ⟨#[]⟩,.int .i64 11]:=by unfold qi;rw[if_neg (by rw[h];simp)];rfl
theorem rI {fmt:Int}{c:aT}(h:ct fmt c=true):jN (qi fmt c)=.tuple #[.string ⟨(aN fmt c).toArray⟩,.int .i64 0]:=by unfold qi;rw[if_pos h];rfl
theorem Bf {fmt:Int}{c:aT}(h:fV c=false):ct fmt c=false:=by unfold ct;rw[h];rfl
theorem Mg {fmt:Int}{c:aT}(h:fV c=true)(hf:fmt=1∨fmt=2):ct fmt c=true:=by
 have hs:=((lP c).1 h).short
 unfold ct
 rw[h,dF (by rintro⟨e,_⟩;omega)]
 rcases hf with rfl | rfl
 ·rw[dT hs];rfl
 ·rw[Rk,dT hs];rfl
theorem xf (fmt:Int)(hfm:dk fmt)(c:bG)(w:World)(hG:Hr w)(hc:c.ok w)(hf:c.few):
  Calls Tryz.prog 49 #[.int .i64 fmt,c.val] w fun e w'=>e=.returned (jN (qi fmt c.plain))∧Below w.heap.size w w':=by
 have HG:=ae hG;have HC:=ae hc;have HF:=ae hf
 clear hG hc hf
 have hnone:mV fmt=false:=by unfold mV;rw[dT hfm];rfl
 have HNN:=ae fun W=>sR fmt W
 rw[hnone] at HNN
 have HFM:=ae hfm
 clear hnone hfm
 obtain⟨W0,hW0⟩:∃ W0,w.alloc (.cells #[.int .i64 c.ep,.slice c.na c.nums.length c.nc,.string c.lt,.string c.pre,.int .i64 c.pnum,.int .i64 c.rev] 95)=W0:=⟨_,rfl⟩
 have R0:Hid (Ek w W0 c):=by show Ek _ _ _;rw[←hW0];exact⟨bR.alloc lr _,aF.new w c.cells _⟩
 have k0:=R0.out.box.cell 0 _ rfl
 have k1:=R0.out.box.cell 1 _ rfl
 have k2:=R0.out.box.cell 2 _ rfl
 have k3:=R0.out.box.cell 3 _ rfl
 have k4:=R0.out.box.cell 4 _ rfl
 have k5:=R0.out.box.cell 5 _ rfl
 unfold bG.val
 go_enter Tryz.func49,Tryz.ntmps49
 go_wp2_with fail
 clear hW0
 refine(HNN.out _).mono ?_;rintro e w' ⟨rfl,rfl⟩
 go_wp2_with fail
 refine(IN c _ (HG.out.below R0.out.bel) (Rd.below HC.out R0.out.bel) HF.out).mono ?_;rintro e w1 ⟨rfl,hb1⟩
 have R1:=ae (R0.out.step hb1)
 clear hb1 k0 k1 k2 k3 k4 k5 R0
 unfold uV
 cases hcb:fV c.plain
 ·have E:=ae (nI (Bf (fmt:=fmt) hcb))
  clear hcb
  simp only[Bool.false_eq_true,if_false]
  go_wp2_with fail
  go_ret2
  exact⟨by rw[E.out];rfl,R1.out.bel⟩
 have HCB:=ae hcb
 clear hcb
 simp only[if_true]
 have k0:=R1.out.box.cell 0 _ rfl
 have k1:=R1.out.box.cell 1 _ rfl
 have k2:=R1.out.box.cell 2 _ rfl
 have k3:=R1.out.box.cell 3 _ rfl
 have k4:=R1.out.box.cell 4 _ rfl
 have k5:=R1.out.box.cell 5 _ rfl
 go_wp2_with fail
 refine(Bd fmt c _ (HG.out.below R1.out.bel) (Rd.below HC.out R1.out.bel) HF.out).mono ?_;rintro e w2 ⟨rfl,hb2⟩
 have R2:=ae (R1.out.step hb2)
 clear hb2 k0 k1 k2 k3 k4 k5 R1
 obtain⟨T,hT⟩:∃ T:BA,(⟨(aN fmt c.plain).toArray⟩:BA)=T:=⟨_,rfl⟩
 have hTs:Hid ((aN fmt c.plain).length=T.size):=by show _=_;rw[←hT];simp[ByteArray.size]
 have HT:=ae hT
 rw[hT]
 clear hT
 have k0:=R2.out.box.cell 0 _ rfl
 by_cases h3:fmt=3
 ·have q3:(fmt==3)=true:=by rw[h3];rfl
  have H3:=ae h3
  clear h3
  by_cases he:c.ep=0
  ·have qe:((c.ep:Int) != 0)=false:=by rw[he];rfl
   have HE:=ae he
   clear he
   by_cases h64:64<T.size
   ·have d1:decide ((64:Int)<(T.size:Int))=true:=dT (by omega)
    have d2:decide (64<T.size)=true:=dT h64
    have E:=ae (nI (fmt:=fmt) (c:=c.plain) (by unfold ct;rw[HCB.out,dF (p:=(aN fmt c.plain).length≤64) (by rw[hTs.out];omega)];simp))
    clear h64
    go_wp2_with fail
    go_ret2
    exact⟨by rw[E.out];rfl,R2.out.bel⟩
   ·have d1:decide ((64:Int)<(T.size:Int))=false:=dF (by omega)
    have d2:decide (64<T.size)=false:=dF h64
    have E:=ae (rI (fmt:=fmt) (c:=c.plain) (by unfold ct;rw[HCB.out,dT (p:=(aN fmt c.plain).length≤64) (by rw[hTs.out];omega),dF (p:=fmt=3∧c.plain.ep≠0) (by rintro⟨_,h⟩;exact h HE.out)];rfl))
    clear h64
    go_wp2_with fail
    go_ret2
    exact⟨by rw[E.out,HT.out];rfl,R2.out.bel⟩
  ·have qe:((c.ep:Int) != 0)=true:=by simp[bne];omega
   have E:=ae (nI (fmt:=fmt) (c:=c.plain) (by unfold ct;rw[HCB.out,dT (p:=fmt=3∧c.plain.ep≠0) ⟨H3.out,he⟩];rfl))
   clear he
   go_wp2_with fail
   go_ret2
   exact⟨by rw[E.out];rfl,R2.out.bel⟩
 ·have q3:(fmt==3)=false:=by simpa using h3
  have E:=ae (rI (Mg (fmt:=fmt) (c:=c.plain) HCB.out (by have:=HFM.out;unfold dk at this;omega)))
  clear h3
  go_wp2_with fail
  go_ret2
  exact⟨by rw[E.out,HT.out];rfl,R2.out.bel⟩
end
section
open Go.RowKit Go.Deep
theorem Kr:∀ f:Nat,(∀ deep n l t l' n',fK f deep n l=some (t,l',n')→l'.length<l.length)∧(∀ deep n acc op l t l' n',iF f deep n acc op l=some (t,l',n')→l'.length<l.length)
 | 0=>⟨fun _ _ _ _ _ _ h=>by simp[fK] at h,fun _ _ _ _ _ _ _ _ h=>by simp[iF] at h⟩
 | f+1=>by
  obtain⟨ih1,ih2⟩:=Kr f
  have skip:∀ l:LU,(bw l).length≤l.length:=Pw
  constructor
  ·intro deep n l t l' n' h
   unfold fK at h
   split at h
   ·simp at h
   ·rename_i h0
    have hl:aY l≠[]:=fun e=>h0 (.inl e)
    have hlt:=kP hl
    split at h
    ·split at h
     ·simp at h
     ·have:=ih2 _ _ _ _ _ _ _ _ h;omega
    ·unfold fX at h
     split at h
     ·simp at h
     ·split at h
      ·unfold kH at h
       split at h
       ·simp only[Option.some.injEq,Prod.mk.injEq] at h
        obtain⟨_,rfl,_⟩:=h;exact hlt
       ·unfold jK at h
        split at h
        ·simp at h
        ·split at h
         ·simp only[Option.some.injEq,Prod.mk.injEq] at h
          obtain⟨_,rfl,_⟩:=h
          have a1:=skip (bw l)
          have a2:=skip (bw (bw l))
          omega
         ·simp at h
      ·simp at h
  ·intro deep n acc op l t l' n' h
   unfold iF at h
   split at h
   ·simp at h
   ·rename_i k l1 n1 hd
    have h1:=ih1 _ _ _ _ _ _ hd
    split at h
    ·simp only[Option.some.injEq,Prod.mk.injEq] at h
     obtain⟨_,rfl,_⟩:=h
     have:=skip l1;omega
    ·split at h
     ·have h2:=ih2 _ _ _ _ _ _ _ _ h
      have:=skip l1;omega
     ·simp at h
theorem ce.grown2 {wb w2:World}{lo:Nat}{old new:Option Nat}{t:aj}(h:ce wb lo old t)(hg:wb.grownBy w2 old)(hn:new=old∨new=some wb.heap.size):ce w2 lo new t:=by
 induction h with
 | mk t row ne _ ih=>
  have hr:(Value.slice t.ka t.kids.length t.kc).ownBlock=none∨(Value.slice t.ka t.kids.length t.kc).ownBlock≠old:=by
   cases hb:(Value.slice t.ka t.kids.length t.kc).ownBlock with
   | none=>exact .inl rfl
   | some g=>exact .inr (ne g hb)
  refine .mk t (row.kept hg hr) (fun g hb e=>?_) ih
  rcases hn with rfl | rfl
  ·exact ne g hb e
  ·injection e with e;have:=(row.lt g hb).2;omega
structure Em (w wr:World) (a hi:Nat) (l:LU) (n r:Nat) (OP:BA) (ks:List aj) (A:Option Addr) (m cc:Nat):Prop where
 len:ks.length=m
 box:aF wr w.heap.size [.string OP,.string ⟨#[]⟩,.int .i64 0,.string ⟨#[]⟩,.slice A m cc]
 row:wr.ownsRow (w.heap.size+1) 70 5 (.slice A m cc) m (ks.flatMap aj.cells)
 kids:∀ k∈ks,ce wr (w.heap.size+1) (Value.slice A m cc).ownBlock k
 good:∀ k∈ks,dH k
 pr:PR wr a hi l n r
 gr:w.grownBy wr (some a)
 lt:hi≤w.heap.size
theorem Em.start {w:World}{a hi n r:Nat}{l:LU}(h:PR w a hi l n r)(t:TypeId):Em w (w.alloc (.cells #[.string ⟨#[]⟩,.string ⟨#[]⟩,.int .i64 0,.string ⟨#[]⟩,.slice none 0 0] t)) a hi l n r ⟨#[]⟩ [] none 0 0:=
 ⟨rfl,aF.new w _ t,World.ownsRow_nil _ _ _ _,by simp,by simp,h.alloc _,eK (bR.alloc lr _) _,h.hz⟩
theorem Em.alt {w wr:World}{a hi n r:Nat}{l:LU}{OP:BA}{ks:List aj}{A:Option Addr}{m cc:Nat}(h:Em w wr a hi l n r OP ks A m cc):a<w.heap.size:=by have:=h.pr.lt;have:=h.lt;omega
theorem Em.step {w wr w':World}{a hi n r n' r':Nat}{l l':LU}{OP:BA}{ks:List aj}{A:Option Addr}{m cc:Nat}(h:Em w wr a hi l n r OP ks A m cc)(hg:wr.grownBy w' (some a))(hd:PR w' a hi l' n' r'):Em w w' a hi l' n' r' OP ks A m cc:=by
 have hlt:=h.alt
 exact⟨h.len,h.box.grownBy hg (by simp;omega),dh h.row (by omega) hg,fun k hk=>(h.kids k hk).kept (by omega) hg,h.good,hd,ap h.gr hg,h.lt⟩
theorem Em.below {w wr w':World}{a hi n r:Nat}{l:LU}{OP:BA}{ks:List aj}{A:Option Addr}{m cc:Nat}(h:Em w wr a hi l n r OP ks A m cc)(hb:Below wr.heap.size wr w'):Em w w' a hi l n r OP ks A m cc:=
 h.step (eK hb _) (h.pr.below hb)
theorem Em.put {w wr:World}{a hi n r:Nat}{l:LU}{OP:BA}{ks:List aj}{A:Option Addr}{m cc:Nat}(h:Em w wr a hi l n r OP ks A m cc)(P:BA):Em w (wr.setCell ⟨w.heap.size,0,none⟩ (.string P)) a hi l n r P ks A m cc:=
 ⟨h.len,h.box.set 0 (by simp) _,dh h.row (by omega) (bN _),fun k hk=>(h.kids k hk).kept (by omega) (bN _),h.good,h.pr.far h.lt _,jl h.gr (bN _) (fun j e=>by injection e with e;omega),h.lt⟩
theorem Em.grow {w wb w2:World}{a hi n r:Nat}{l:LU}{OP:BA}{ks:List aj}{A A1:Option Addr}{m cc c1:Nat}{T:aj}(h:Em w wb a hi l n r OP ks A m cc)(hT:ce wb (w.heap.size+1) (Value.slice A m cc).ownBlock T)(hgd:dH T)
  (hr:w2.ownsRow (w.heap.size+1) 70 5 (.slice A1 (m+1) c1) (m+1) (ks.flatMap aj.cells++T.cells))
  (hg:wb.grownBy w2 (Value.slice A m cc).ownBlock)(ha:(Value.slice A1 (m+1) c1).ownBlock=(Value.slice A m cc).ownBlock∨(Value.slice A1 (m+1) c1).ownBlock=some wb.heap.size):
  Em w (w2.setCell ⟨w.heap.size,4,none⟩ (.slice A1 (m+1) c1)) a hi l n r OP (ks++[T]) A1 (m+1) c1:=by
 have far:∀ j,(Value.slice A m cc).ownBlock=some j→w.heap.size+1≤j:=fun j hj=>(h.row.lt j hj).1
 have hz:=h.lt
 have bx:aF w2 w.heap.size [.string OP,.string ⟨#[]⟩,.int .i64 0,.string ⟨#[]⟩,.slice A m cc]:=h.box.grownBy hg (fun e=>by have:=far _ e.symm;omega)
 refine⟨by simp[h.len],bx.set 4 (by simp) _,?_,fun k hk=>?_,fun k hk=>?_,?_,?_,h.lt⟩
 ·rw[List.flatMap_append]
  exact dh (by simpa using hr) (by omega) (bN _)
 ·refine ce.kept ?_ (by omega) (bN _)
  rcases List.mem_append.1 hk with hk | hk
  ·exact(h.kids k hk).grown2 hg ha
  ·obtain rfl:=List.mem_singleton.1 hk
   exact hT.grown2 hg ha
 ·rcases List.mem_append.1 hk with hk | hk
  ·exact h.good k hk
  ·obtain rfl:=List.mem_singleton.1 hk;exact hgd
 ·exact(h.pr.grown hg (fun j e=>by have:=far j e;omega)).far hz _
 ·exact jl (jl h.gr hg (fun j e=>by have:=far j e;omega)) (bN _) (fun j e=>by injection e with e;omega)
def dd (r:Option (gQ×LU×Nat))(a hi m deep n:Nat)(w:World)(e:Ending)(w':World):Prop:=
 w.grownBy w' (some a)∧match r with
  | none=>∃ (f:BA) (x c:Int),e=.returned (.tuple #[rZ.val,gB f x c])∧c≠0
  | some (t,l',n')=>∃ (T:aj) (m':Nat),e=.returned (.tuple #[T.val,gB ⟨#[]⟩ 0 0])∧T.pl=t∧dH T∧ce w' w.heap.size none T∧T.ht+deep≤32∧n'=n+T.cnt∧n'≤64∧PR w' a hi l' n' m'∧m'<m
theorem dd.no {r:Option (gQ×LU×Nat)}{a hi m deep n:Nat}{w w':World}{f:BA}{x c:Int}(hr:r=none)(hg:w.grownBy w' (some a))(hc:c≠0):dd r a hi m deep n w (.returned (.tuple #[rZ.val,gB f x c])) w':=by
 subst hr;exact⟨hg,f,x,c,rfl,hc⟩
theorem dd.yes {r:Option (gQ×LU×Nat)}{a hi m m' deep n n':Nat}{l':LU}{w w':World}{T:aj}(hr:r=some (T.pl,l',n'))(hg:w.grownBy w' (some a))(h1:dH T)(h2:ce w' w.heap.size none T)(h3:T.ht+deep≤32)(h4:n'=n+T.cnt)(h5:n'≤64)(h6:PR w' a hi l' n' m')(h7:m'<m):dd r a hi m deep n w (.returned (.tuple #[T.val,gB ⟨#[]⟩ 0 0])) w':=by
 subst hr;exact⟨hg,T,m',rfl,rfl,h1,h2,h3,h4,h5,h6,h7⟩
theorem MF {f deep n:Nat}{acc:List gQ}{op l:LU}(h:fK f deep n l=none):iF (f+1) deep n acc op l=none:=by unfold iF;rw[h]
theorem Py {f deep n n1:Nat}{acc:List gQ}{op l l1:LU}{k:gQ}(h:fK f deep n l=some (k,l1,n1))(h1:aY l1=[41])(h2:acc≠[]):iF (f+1) deep n acc op l=some (.node op (acc++[k]),bw l1,n1):=by
 unfold iF;rw[h];simp only;rw[if_pos ⟨h1,h2⟩]
theorem MG {f deep n n1:Nat}{acc:List gQ}{op l l1:LU}{k:gQ}(h:fK f deep n l=some (k,l1,n1))(h1:¬ (aY l1=[41]∧acc≠[]))(h2:aP op (acc.length+1) (aY l1)=true):iF (f+1) deep n acc op l=iF f deep n1 (acc++[k]) (if acc=[] then aY l1 else op) (bw l1):=by
 rw[iF,h];simp only;rw[if_neg h1,if_pos h2]
theorem Pz {f deep n n1:Nat}{acc:List gQ}{op l l1:LU}{k:gQ}(h:fK f deep n l=some (k,l1,n1))(h1:¬ (aY l1=[41]∧acc≠[]))(h2:aP op (acc.length+1) (aY l1)=false):iF (f+1) deep n acc op l=none:=by
 rw[iF,h];simp only;rw[if_neg h1,if_neg (by simp[h2])]
end
end Go.Proofs.YtkjdbpjglobbjaaGreatDoor
