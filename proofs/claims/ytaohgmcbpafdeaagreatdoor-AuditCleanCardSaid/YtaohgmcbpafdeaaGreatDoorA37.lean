/- A part of the proof. -/
import Derived.Test.YtaohgmcbpafdeaaGreatDoorA33
import Derived.Test.YtaohgmcbpafdeaaGreatDoorA36
set_option maxRecDepth 100000
set_option maxHeartbeats 20000000
set_option linter.unusedVariables false
set_option linter.unusedSimpArgs false
namespace Go.Proofs.YtaohgmcbpafdeaaGreatDoor
section
open Go.RowKit Go.Deep
theorem oB (op:LU):∀ (a:List oN)(i:Nat)(b:List oN),fQ op i (a++b)=fQ op i a++fQ op (i+a.length) b
 | [],i,b=>by simp[fQ]
 | x::r,i,b=>by
  have h:=oB op r (i+1) b
  simp only[List.cons_append,fQ,h,List.length_cons]
  rw[show i+1+r.length=i+(r.length+1) by omega]
  simp[List.append_assoc]
theorem zO (a b:List aj):kE (a++b)=kE a++kE b:=by rw[it,it,it,List.map_append]
theorem zP (a:List aj):(kE a).length=a.length:=by rw[it];simp
theorem Jw (op:LU)(k:aj):fQ op 0 (kE [k])=dS k.pl:=by simp[kE,fQ]
theorem Gx (op:LU)(ks:List aj)(i:Nat)(t:aj)(ht:ks[i+1]?=some t):fQ op 0 (kE (ks.take (i+2)))=fQ op 0 (kE (ks.take (i+1)))++([32]++LJ op (i+1)++[32]++dS t.pl):=by
 obtain⟨hk,hg⟩:=gS ht
 rw[show i+2=i+1+1 from rfl,tS hk,hg,zO,oB,zP,List.length_take,Nat.min_eq_left (by omega)]
 simp[kE,fQ]
theorem zQ (op:LU)(i:Nat):LJ op (i+1)=if 0<i∧(op=mH∨op=be) then qd else op:=by
 unfold LJ;congr 1;apply propext;constructor<;>rintro⟨h1,h2⟩<;>exact⟨by omega,h2⟩
def Pq (T:aj):Prop:=∀ w:World,Gl w→bB w 0 none T→T.cnt≤64→Calls Tryz.prog 163 #[T.val] w fun e w'=>e=.returned (.string (bC (dS T.pl)))∧Below w.heap.size w w'
theorem Gy {T:aj}(h:fy T):Pq T:=by
 induction h with
 | atom nm aop ver hn ho hv0 hv=>
  intro w hG _ _
  have HG:=ae hG
  have hnz:=(lT hn).2
  have HV:=ae hv
  rw[rg _ _ _ _ _ _ _ rfl]
  clear hn hv0 hv hG
  obtain⟨W1,hW1⟩:∃ W1,w.alloc (.cells #[.string ⟨#[]⟩,.string nm,.int .i64 aop,.string ver,.slice none 0 0] 179)=W1:=⟨_,rfl⟩
  have B1:Hid (Below w.heap.size w W1):=by rw[←hW1];exact bR.alloc lr _
  have K1:Hid (ax W1 w.heap.size [.string ⟨#[]⟩,.string nm,.int .i64 aop,.string ver,.slice none 0 0]):=by rw[←hW1];exact ax.new w [.string ⟨#[]⟩,.string nm,.int .i64 aop,.string ver,.slice none 0 0] _
  have k0:=K1.out.cell 0 _ rfl
  have k1:=K1.out.cell 1 _ rfl
  have k2:=K1.out.cell 2 _ rfl
  have k3:=K1.out.cell 3 _ rfl
  show Calls Tryz.prog 163 #[.agg #[.string ⟨#[]⟩,.string nm,.int .i64 aop,.string ver,.slice none 0 0]] w _
  by_cases a0:aop=0
  ·have q0:((aop:Int)==0)=true:=by simp[a0]
   have E:Hid (bl nm=dS (.atom (bl nm) aop (bl ver))):=by show _=_;simp[dS,a0]
   clear a0
   go_enter Tryz.func163,Tryz.ntmps163
   go_wp2_with fail
   go_ret
   exact⟨by rw[←vD E.out];rfl,B1.out⟩
  ·have q0:((aop:Int)==0)=false:=by simp;omega
   have hvz:=tj (HV.out (by omega))
   have hsg:=(HG.out.below B1.out).rsg aop (by omega)
   have hsz:(nI aop).size≤2:=by rw[←ag,tq aop (by omega)];exact Ed _
   have E:Hid (bl (nm++⟨#[32]⟩++nI aop++⟨#[32]⟩++ver)=dS (.atom (bl nm) aop (bl ver))):=by
    show _=_;simp only[cj];unfold dS;rw[if_neg a0,tq aop (by omega)];rfl
   have o2:(aop:Int)<6:=by omega
   have o3:(0:Int)≤(aop:Int):=by omega
   clear a0
   go_enter Tryz.func163,Tryz.ntmps163
   go_wp2_with fail
   go_quiet (fail)
   go_wp2_with fail
   go_ret
   exact⟨by rw[←vD E.out];rfl,an B1.out _⟩
 | node op ka kc kids ho hc hk ih=>
  intro w hG hO hcn
  have HG:=ae hG
  have HO:=ae hO
  have HIH:=ae ih
  have HGD:=ae hk
  obtain⟨hw,hw7⟩:=kq ho
  have HW7:=ae hw7
  have hop7:op.size≤7:=by rw[←ag];exact hw7
  have o0:(op.toList==([]:LU))=false:=by rw[ah,bF];exact hw
  have o2:¬ op.toList=[]:=by rw[ah];exact hw
  have o1:op.toList.isEmpty=false:=by rw[List.isEmpty_eq_false_iff];exact o2
  obtain⟨tl,htl⟩:∃ tl,kids.length=tl:=⟨_,rfl⟩
  have HTL:=ae htl
  have ht2:2≤tl:=by have:=kp hc;omega
  have CNE:=ae (eZ (t:=.mk op ⟨#[]⟩ 0 ⟨#[]⟩ ka kc kids) (by intro e;simp only[aj.kids] at e;rw[e] at htl;simp at htl;omega))
  have HCN:Hid (cE kids≤64):=by have h1:=CNE.out;simp only[aj.kids] at h1;show _≤_;omega
  have htl9:tl≤64:=by have h1:=fR kids;have:=HCN.out;omega
  have hkc:tl≤kc:=by have:=ll hO.row;simp only[aj.kids,aj.kc] at this;omega
  have hkm:kc≤9223372036854775807:=by
   rcases hO.row.2 with⟨hv,_⟩ | ⟨g,cap,cur,hv,_,_,_,h5,_⟩
   ·injection hv with _ _ h3;simp only[aj.kc] at h3;omega
   ·injection hv with _ _ h3;simp only[aj.kc] at h3;simp only[maxLen] at h5;omega
  obtain⟨g,cur,hA,hg,-⟩:=lq hO (by intro e;simp only[aj.kids] at e;rw[e] at htl;simp at htl;omega)
  simp only[aj.ka] at hA
  subst hA
  obtain⟨W1,hW1⟩:∃ W1,w.alloc (.cells #[.string op,.string ⟨#[]⟩,.int .i64 0,.string ⟨#[]⟩,.slice (some ⟨g,0,none⟩) tl kc] 179)=W1:=⟨_,rfl⟩
  have B1:Hid (Below w.heap.size w W1):=by rw[←hW1];exact bR.alloc lr _
  have K1:Hid (ax W1 w.heap.size [.string op,.string ⟨#[]⟩,.int .i64 0,.string ⟨#[]⟩,.slice (some ⟨g,0,none⟩) tl kc]):=by rw[←hW1];exact ax.new w [.string op,.string ⟨#[]⟩,.int .i64 0,.string ⟨#[]⟩,.slice (some ⟨g,0,none⟩) tl kc] _
  have k0:=K1.out.cell 0 _ rfl
  have k4:=K1.out.cell 4 _ rfl
  have O1:Hid (bB W1 0 none (.mk op ⟨#[]⟩ 0 ⟨#[]⟩ (some ⟨g,0,none⟩) kc kids)):=HO.out.low B1.out
  -- the texts are short
  have TS:Hid (∀ t∈kids,(bC (dS t.pl)).size≤12800):=fun t ht=>by
   have h1:=(HGD.out t ht).text;have h2:=iX ht;have:=HCN.out;rw[bS];omega
  have PS:Hid (∀ i,(fQ (bl op) 0 (kE (kids.take i))).length≤12800):=fun i=>by
   have h1:=pt (bl op) HW7.out (kids.take i) 0 (fun k hk=>(HGD.out k (List.mem_of_mem_take hk)).text)
   have h2:=iu kids i;have:=HCN.out;omega
  obtain⟨t0,ht0⟩:∃ t,kids[0]?=some t:=⟨_,gG (by omega)⟩
  have HT0:=ae ht0
  have hm0:Hid (t0∈kids):=gM ht0
  obtain⟨b',off,hA,he⟩:=O1.out.rd.cell 0 t0 ht0
  simp only[aj.ka] at hA
  injection hA with hA;injection hA with hb ho' _
  subst hb ho'
  have e0:=he 0 _ rfl
  have e1:=he 1 _ rfl
  have e2:=he 2 _ rfl
  have e3:=he 3 _ rfl
  have e4:=he 4 _ rfl
  simp only[Nat.zero_mul,Nat.add_zero,Nat.zero_add] at e0 e1 e2 e3 e4
  have hcall:=HIH.out t0 hm0.out W1 (HG.out.below B1.out) (O1.out.kids t0 hm0.out) (by have h1:=iX hm0.out;have:=HCN.out;omega)
  have hz0:=TS.out t0 hm0.out
  obtain⟨X0,hX0⟩:∃ X0,bC (dS t0.pl)=X0:=⟨_,rfl⟩
  rw[hX0] at hcall hz0
  have HX0:Hid (bl X0=dS t0.pl):=by show _=_;rw[←hX0,eh]
  unfold aj.val at hcall
  rw[xF _ _ _ _ _ _ _ hw]
  have hix:=fun W=>aI (T:=177) (E:=179) (sz:=5) (n:=tl) (c:=kc) (k:=0) (A:=some ⟨g,0,none⟩) Tryz.underlying177 rfl Tryz.sizeOf179 rfl (by omega) W
  simp only[Nat.zero_mul,Nat.add_zero] at hix
  clear ho hc hk ih hG hO hw hw7 htl hcn CNE hg he ht0 hX0
  show Calls Tryz.prog 163 #[.agg #[.string op,.string ⟨#[]⟩,.int .i64 0,.string ⟨#[]⟩,.slice (some ⟨g,0,none⟩) kids.length kc]] w _
  rw[HTL.out]
  go_enter Tryz.func163,Tryz.ntmps163
  go_wp2_with fail
  refine hcall.mono ?_;rintro e w2 ⟨rfl,hb⟩
  have B2:=ae (aq B1.out hb)
  have K2:=ae (K1.out.below hb)
  have O2:=ae (O1.out.low hb)
  clear hcall hb e0 e1 e2 e3 e4 k0 k4 hix hW1
  have k0:=K2.out.cell 0 _ rfl
  have k4:=K2.out.cell 4 _ rfl
  have S0:Hid (bl (⟨#[40]⟩++X0)=[40]++fQ (bl op) 0 (kE (kids.take 1))):=by
   show _=_
   obtain⟨hk',hg'⟩:=gS HT0.out
   rw[tS hk',hg']
   simp only[List.take_zero,List.nil_append]
   rw[Jw,cj,HX0.out];rfl
  go_wp2_with fail
  obtain⟨rl,hrl⟩:∃ rl,tl-1=rl:=⟨_,rfl⟩
  have RL:Hid (kids.length=rl+1):=by have:=HTL.out;show _=_;omega
  rw[hrl]
  have hrl64:rl≤64:=by omega
  have HSZ:Hid (w.heap.size<w2.heap.size):=K2.out.sz
  have hs0:(⟨#[40]⟩++X0:BA).size≤12900:=by rw[←ag,S0.out,List.length_append];have:=PS.out 1;simp;omega
  clear hrl k0 k4 hkc hkm ht2 htl9 hz0
  go_loopw [3,42] (fun sv iv wr=>∃ (i:Nat) (S:BA),sv=.string S∧iv=.int .i64 i∧i≤rl∧S.size≤12900∧Hid (bl S=[40]++fQ (bl op) 0 (kE (kids.take (i+1))))∧Hid (Below w.heap.size w wr)∧Hid (ax wr w.heap.size [.string op,.string ⟨#[]⟩,.int .i64 0,.string ⟨#[]⟩,.slice (some ⟨g,0,none⟩) tl kc])) (fun _ iv _=>rl-(intOf iv).toNat)
  case atStart=>exact⟨0,_,rfl,rfl,z0,hs0,S0,B2,K2⟩
  case round=>
   clear hs0 S0 K2
   obtain⟨i,S,rfl,rfl,hi,hS,HS,HB,HK⟩:=hrel
   by_cases hlt:i<rl
   ·obtain⟨t,ht⟩:∃ t,kids[i+1]?=some t:=⟨_,gG (by rw[RL.out];omega)⟩
    have HT:=ae ht
    have htm:Hid (t∈kids):=gM ht
    have O3:=HO.out.low HB.out
    obtain⟨b',off,hA,he⟩:=O3.rd.cell (i+1) t ht
    simp only[aj.ka] at hA
    injection hA with hA;injection hA with hb ho' _
    subst hb ho'
    have e0:=he 0 _ rfl
    have e1:=he 1 _ rfl
    have e2:=he 2 _ rfl
    have e3:=he 3 _ rfl
    have e4:=he 4 _ rfl
    have hoff:0+(i+1)*5=5+i*5:=by omega
    rw[hoff] at e0 e1 e2 e3 e4
    simp only[Nat.add_zero] at e0
    have hix:=fun W=>aI (T:=177) (E:=179) (sz:=5) (n:=rl) (c:=kc-1) (k:=i) (A:=some ⟨g,5,none⟩) Tryz.underlying177 rfl Tryz.sizeOf179 rfl hlt W
    obtain⟨W3,hW3⟩:∃ W3,wr.alloc (.cells #[.string t.op,.string t.nm,.int .i64 t.aop,.string t.ver,.slice t.ka t.kids.length t.kc] 179)=W3:=⟨_,rfl⟩
    have B3:Hid (Below wr.heap.size wr W3):=by rw[←hW3];exact bR.alloc lr _
    have K3:Hid (ax W3 wr.heap.size t.cells):=by rw[←hW3];exact ax.new wr t.cells _
    have B4:=ae (aq HB.out B3.out)
    have HK3:=ae (HK.out.below B3.out)
    have hcall:=HIH.out t htm.out W3 (HG.out.below B4.out) ((O3.low B3.out).kids t htm.out) (by have h1:=iX htm.out;have:=HCN.out;omega)
    have hz:=TS.out t htm.out
    obtain⟨X,hX⟩:∃ X,bC (dS t.pl)=X:=⟨_,rfl⟩
    rw[hX] at hcall hz
    have HX:Hid (bl X=dS t.pl):=by show _=_;rw[←hX,eh]
    unfold aj.val at hcall
    have a0:=K3.out.cell 0 _ rfl
    have a1:=K3.out.cell 1 _ rfl
    have a2:=K3.out.cell 2 _ rfl
    have a3:=K3.out.cell 3 _ rfl
    have a4:=K3.out.cell 4 _ rfl
    have b0:=HK3.out.cell 0 _ rfl
    clear ht he O3 hX hoff
    go_upto_region 10 with(fail)
    clear hW3 e0 e1 e2 e3 e4 hix
    obtain⟨bb,hbb⟩:∃ bb:Bool,decide (0<i∧(bl op=mH∨bl op=be))=bb:=⟨_,rfl⟩
    have HBB:=ae hbb
    clear hbb
    go_cut [58] (fun v wx=>v=.bool bb∧W3=wx)
    case first=>
     clear hcall
     by_cases i0:0<i
     ·have q1:decide ((0:Int)<(i:Int))=true:=dT (by omega)
      have q2:decide (0<i)=true:=dT i0
      by_cases w1:bl op=mH
      ·have F1:op.toList=[105,102]:=by rw[ah];exact w1
       have E2:Hid (bb=true):=by show _=_;rw[←HBB.out];exact dT ⟨i0,.inl w1⟩
       clear w1 o0 o1 o2
       go_wp2_with fail
       go_meet
       exact⟨by rw[E2.out],rfl⟩
      ·have F1:(op.toList==([105,102]:LU))=false:=by rw[ah,bF];exact w1
       by_cases w2:bl op=be
       ·have F2:op.toList=[117,110,108,101,115,115]:=by rw[ah];exact w2
        have E2:Hid (bb=true):=by show _=_;rw[←HBB.out];exact dT ⟨i0,.inr w2⟩
        clear w1 w2 o0 o1 o2 F1
        go_wp2_with fail
        go_meet
        exact⟨by rw[E2.out],rfl⟩
       ·have F2:(op.toList==([117,110,108,101,115,115]:LU))=false:=by rw[ah,bF];exact w2
        have E2:Hid (bb=false):=by show _=_;rw[←HBB.out];exact dF (by rintro⟨_,h | h⟩<;>contradiction)
        clear w1 w2 o0 o1 o2
        go_wp2_with fail
        go_meet
        exact⟨by rw[E2.out],rfl⟩
     ·have q1:decide ((0:Int)<(i:Int))=false:=dF (by omega)
      have q2:decide (0<i)=false:=dF i0
      have E2:Hid (bb=false):=by show _=_;rw[←HBB.out];exact dF (fun h=>i0 h.1)
      go_wp2_with fail
      go_meet
      exact⟨by rw[E2.out],rfl⟩
    case rest=>
    obtain⟨rfl,rfl⟩:=hcut
    go_upto_if 58 with(fail)
    go_cut [6] (fun v wx=>∃ Wd:BA,v=.string Wd∧Wd.size≤7∧Hid (bl Wd=LJ (bl op) (i+1))∧W3=wx)
    case first=>
     cases bb with
     | true=>
      have E:Hid (bl ⟨#[101,108,115,101]⟩=LJ (bl op) (i+1)):=by show _=_;rw[zQ,if_pos (dO HBB.out)];rfl
      go_wp2_with fail
      go_meet
      exact⟨_,rfl,by decide,E,rfl⟩
     | false=>
      have E:Hid (bl op=LJ (bl op) (i+1)):=by show _=_;rw[zQ,if_neg (of_decide_eq_false HBB.out)]
      go_wp2_with fail
      go_meet
      exact⟨_,rfl,hop7,E,rfl⟩
    case rest=>
    obtain⟨Wd,rfl,hWd,EW,rfl⟩:=hcut
    have SN:Hid (bl (S++(⟨#[32]⟩++Wd++⟨#[32]⟩++X))=[40]++fQ (bl op) 0 (kE (kids.take (i+2)))):=by
     show _=_
     rw[Gx _ _ _ _ HT.out];simp only[cj];rw[HS.out,EW.out,HX.out]
     simp[List.append_assoc];rfl
    have hsn:(S++(⟨#[32]⟩++Wd++⟨#[32]⟩++X):BA).size≤12900:=by rw[←ag,SN.out,List.length_append];have:=PS.out (i+2);simp;omega
    have HSN:Hid ((S++(⟨#[32]⟩++Wd++⟨#[32]⟩++X):BA).size≤12900):=hsn
    clear hsn
    have a0:=K3.out.cell 0 _ rfl
    have a1:=K3.out.cell 1 _ rfl
    have a2:=K3.out.cell 2 _ rfl
    have a3:=K3.out.cell 3 _ rfl
    have a4:=K3.out.cell 4 _ rfl
    go_wp2_with fail
    refine hcall.mono ?_;rintro e w4 ⟨rfl,hb⟩
    have B5:=ae (aq B4.out hb)
    have HK5:=ae (HK3.out.below hb)
    clear hcall hb a0 a1 a2 a3 a4 b0
    go_wp2_with fail
    go_roundw
    case rel=>exact⟨i+1,_,rfl,by go_num,by omega,HSN.out,SN,B5,HK5⟩
    case measure=>simp[intOf];omega
   ·have E:Hid (bl (S++⟨#[41]⟩)=dS (.node (bl op) (kE kids))):=by
     have h1:=HS.out
     rw[tL (by rw[RL.out];omega)] at h1
     show _=_;rw[cj,h1];rfl
    go_wp2_with fail
    go_ret
    exact⟨by rw[←vD E.out];rfl,HB.out⟩
end
section
open Go.RowKit
def tN (fmt:Int)(l:LU):Bool:=if fmt=1 then dy l else if fmt=2 then dq l else cV l
theorem qL (fmt:Int)(s:BA)(w:World)(hs:s.size≤9223372036854775807):
  Calls Tryz.prog 80 #[.int .i64 fmt,.string s] w fun e w'=>e=.returned (.bool (tN fmt (bl s)))∧w=w':=by
 by_cases h1:fmt=1
 ·subst h1
  have E:Hid (tN 1 (bl s)=dy (bl s)):=rfl
  go_enter Tryz.func80,Tryz.ntmps80
  go_wp2_with fail
  refine(lM s _ hs).mono ?_;rintro e w' ⟨rfl,rfl⟩
  go_wp2_with fail
  go_ret
  exact⟨af E.out.symm,rfl⟩
 have g1:(fmt==1)=false:=by simpa using h1
 by_cases h2:fmt=2
 ·subst h2
  have E:Hid (tN 2 (bl s)=dq (bl s)):=rfl
  clear h1 g1
  go_enter Tryz.func80,Tryz.ntmps80
  go_wp2_with fail
  refine(lW s _ hs).mono ?_;rintro e w' ⟨rfl,rfl⟩
  go_wp2_with fail
  go_ret
  exact⟨af E.out.symm,rfl⟩
 have g2:(fmt==2)=false:=by simpa using h2
 have E:Hid (tN fmt (bl s)=cV (bl s)):=by show _=_;unfold tN;rw[if_neg h1,if_neg h2]
 clear h1 h2
 go_enter Tryz.func80,Tryz.ntmps80
 go_wp2_with fail
 refine(oY s _ hs).mono ?_;rintro e w' ⟨rfl,rfl⟩
 go_wp2_with fail
 go_ret
 exact⟨af E.out.symm,rfl⟩
def lz (fmt:Int)(x:et):Bool:=tN fmt (bl x.nm)&&(if x.op=0 then decide (x.ver.size=0) else decide (x.op=3)&&decide (cG fmt x.ver=0))
def jb (fmt:Int)(l:List et):Bool:=decide (l.length≤32)&&l.all (lz fmt)
theorem zZ {fmt:Int}{l:List et}(h:32<l.length):jb fmt l=false:=by
 unfold jb;rw[dF];rfl
theorem GI {fmt:Int}{l:List et}{x:et}(h:x∈l)(hx:lz fmt x=false):jb fmt l=false:=by
 unfold jb
 have:l.all (lz fmt)=false:=by rw[List.all_eq_false];exact⟨x,h,by rw[hx];simp⟩
 rw[this];simp
theorem CV {fmt:Int}{l:List et}(h:¬ 32<l.length)(hx:∀ (j:Nat) x,l[j]?=some x→lz fmt x=true):jb fmt l=true:=by
 unfold jb
 have:l.all (lz fmt)=true:=by rw[List.all_eq_true];intro x hm;obtain⟨j,hj⟩:=List.getElem?_of_mem hm;exact hx j x hj
 rw[this,dT];rfl
theorem py (fmt:Int)(A:OA)(c:Nat)(l:List et)(w:World)(hG:Gl w)(hr:Rd w 3 A l.length (l.flatMap et.cells))(hn:l.length≤9223372036854775807)(hf:∀ x∈l,x.nm.size≤4294967280∧x.ver.size≤4294967280):
  Calls Tryz.prog 57 #[.int .i64 fmt,.slice A l.length c] w fun e w'=>e=.returned (.bool (jb fmt l))∧Below w.heap.size w w':=by
 have HG:=ae hG;have HR:=ae hr;have HF:=ae hf
 clear hG hr hf
 by_cases h32:32<l.length
 ·have E:=ae (zZ (fmt:=fmt) h32)
  go_enter Tryz.func57,Tryz.ntmps57
  go_wp2_with fail
  go_ret
  exact⟨af E.out.symm,bR⟩
 go_enter Tryz.func57,Tryz.ntmps57
 go_wp2_with fail
 go_loopw [12] (fun i wr=>∃ k:Nat,k≤l.length∧i=.int .i64 k∧Hid (Below w.heap.size w wr)∧Hid (∀ (j:Nat) x,j<k→l[j]?=some x→lz fmt x=true)) (fun i _=>l.length-(intOf i).toNat)
 case atStart=>exact⟨0,z0,rfl,bR,fun j x h=>absurd h (Nat.not_lt_zero _)⟩
 case round=>
  obtain⟨k,hk,rfl,HB,HA⟩:=hrel
  by_cases hlt:k<l.length
  ·obtain⟨x,hx⟩:∃ x,l[k]?=some x:=⟨_,gG hlt⟩
   obtain⟨b,off,hA,he⟩:=(HR.out.below HB.out).elem yo k x hx
   have e0:=he 0 _ rfl
   have e1:=he 1 _ rfl
   have e2:=he 2 _ rfl
   simp only[Nat.add_zero] at e0
   have hix:=fun W=>aI (T:=35) (E:=110) (sz:=3) (c:=c) Tryz.underlying35 rfl Tryz.sizeOf110 hA hlt W
   obtain⟨z1,z2⟩:=HF.out x (gM hx)
   have BAD:=ae (fun h=>GI (fmt:=fmt) (gM hx) h)
   have GOOD:Hid (lz fmt x=true→∀ (j:Nat) y,j<k+1→l[j]?=some y→lz fmt y=true):=by
    intro h j y hj hy
    by_cases e:j=k
    ·subst e;rw[hx] at hy;injection hy with hy;rw[←hy];exact h
    ·exact HA.out j y (by omega) hy
   clear hx he hA
   have hN:=fun W=>qL fmt x.nm W (by omega)
   have B1:Hid (Below w.heap.size w (wr.alloc (.cells #[.string x.nm,.int .i64 x.op,.string x.ver] 110))):=HB.out.alloc HB.out.size _
   cases hnm:tN fmt (bl x.nm) with
   | false=>
    have E:=ae (BAD.out (by unfold lz;rw[hnm];rfl))
    rw[hnm] at hN
    clear hnm
    go_wp2_with fail
    refine(hN _).mono ?_;rintro e w' ⟨rfl,rfl⟩
    go_wp2_with fail
    go_ret
    exact⟨af E.out.symm,B1.out⟩
   | true=>
    rw[hnm] at hN
    have GB:Hid (lz fmt x=if x.op=0 then decide (x.ver.size=0) else decide (x.op=3)&&decide (cG fmt x.ver=0)):=by show _=_;unfold lz;rw[hnm];rfl
    clear hnm
    by_cases o0:x.op=0
    ·have q0:(x.op==0)=true:=by simpa using o0
     by_cases hv:x.ver.size=0
     ·have hv1:x.ver.toList=[]:=by rw[ah,bG _ hv]
      have hv2:x.ver.toList.isEmpty=true:=by rw[hv1];rfl
      have G:=ae (GOOD.out (by rw[GB.out,if_pos o0,dT hv]))
      clear o0 hv
      go_wp2_with fail
      refine(hN _).mono ?_;rintro e w' ⟨rfl,rfl⟩
      go_wp2_with fail
      go_roundw
      case rel=>exact⟨k+1,by omega,by go_num,B1,G⟩
      case measure=>simp[intOf];omega
     ·have hv2:x.ver.toList.isEmpty=false:=by rw[ah,aT];exact dF hv
      have hv1:¬ x.ver.toList=[]:=by intro h;rw[h] at hv2;simp at hv2
      have E:=ae (BAD.out (by rw[GB.out,if_pos o0,dF hv]))
      clear o0 hv
      go_wp2_with fail
      refine(hN _).mono ?_;rintro e w' ⟨rfl,rfl⟩
      go_wp2_with fail
      go_ret
      exact⟨af E.out.symm,B1.out⟩
    have q0:(x.op==0)=false:=by simpa using o0
    by_cases o3:x.op=3
    ·have q3:(x.op==3)=true:=by simpa using o3
     by_cases hv:cG fmt x.ver=0
     ·have hv2:(cG fmt x.ver != 0)=false:=by simp[hv]
      have G:=ae (GOOD.out (by rw[GB.out,if_neg o0,dT o3,dT hv];rfl))
      clear o0 o3 hv
      go_wp2_with fail
      refine(hN _).mono ?_;rintro e w' ⟨rfl,rfl⟩
      go_wp2_with fail
      refine(aQ fmt x.ver _ (HG.out.below B1.out) (by omega)).mono ?_;rintro e w1 ⟨rfl,hb1⟩
      have B2:Hid (Below w.heap.size w w1):=aq B1.out hb1
      clear hb1
      go_wp2_with fail
      go_roundw
      case rel=>exact⟨k+1,by omega,by go_num,B2,G⟩
      case measure=>simp[intOf];omega
     ·have hv2:(cG fmt x.ver != 0)=true:=by simp[hv]
      have E:=ae (BAD.out (by rw[GB.out,if_neg o0,dT o3,dF hv];rfl))
      clear o0 o3 hv
      go_wp2_with fail
      refine(hN _).mono ?_;rintro e w' ⟨rfl,rfl⟩
      go_wp2_with fail
      refine(aQ fmt x.ver _ (HG.out.below B1.out) (by omega)).mono ?_;rintro e w1 ⟨rfl,hb1⟩
      have B2:Hid (Below w.heap.size w w1):=aq B1.out hb1
      clear hb1
      go_wp2_with fail
      go_ret
      exact⟨af E.out.symm,B2.out⟩
    ·have q3:(x.op==3)=false:=by simpa using o3
     have E:=ae (BAD.out (by rw[GB.out,if_neg o0,dF o3];rfl))
     clear o0 o3
     go_wp2_with fail
     refine(hN _).mono ?_;rintro e w' ⟨rfl,rfl⟩
     go_wp2_with fail
     go_ret
     exact⟨af E.out.symm,B1.out⟩
  ·have E:=ae (CV (fmt:=fmt) h32 (fun j x hj=>HA.out j x (by have:=(gS hj).1;omega) hj))
   go_wp2_with fail
   go_ret
   exact⟨af E.out.symm,HB.out⟩
end
section
open Go.RowKit Go.Maps
theorem Hp (s:BA):jl s=(decide (1≤s.size)&&(decide (s.size≤200)&&((!iq (bl s) 0)&&(!iq (bl s) 10)))):=by
 unfold jl
 rw[Ky]
 cases iq (bl s) 0<;>cases iq (bl s) 10<;>simp
theorem AV (x:am)(w:World)(hs:x.small):Calls Tryz.prog 45 #[x.val] w fun e w'=>e=.returned (.int .i64 (bA x))∧Below w.heap.size w w':=by
 have HS:=ae hs
 clear hs
 obtain⟨W0,hW0⟩:∃ W0,w.alloc (.cells #[.string x.path,.int .i64 x.kind,.int .i64 x.mode,.int .i64 x.uid,.int .i64 x.gid,.string x.owner,.string x.group,.int .i64 x.mtime,.string x.link,.slice x.da x.data.length x.dc] 45)=W0:=⟨_,rfl⟩
 have B0:Hid (EB w W0 x):=by show EB _ _ _;rw[←hW0];exact EB.start w x
 have c0:=B0.out.blk.cell 0 _ rfl
 unfold am.val
 go_enter Tryz.func45,Tryz.ntmps45
 go_wp2_with fail
 clear hW0 c0
 refine(zd x.path _ (by have:=HS.out.path;omega)).mono ?_;rintro e w1 ⟨rfl,hb1⟩
 have B1:=ae (B0.out.step hb1)
 clear hb1 B0
 cases h1:cy (bl x.path)
 ·have E:Hid (bA x=10):=by show _=_;unfold bA;rw[if_pos h1]
  clear h1
  go_wp2_with fail
  go_ret
  exact⟨ap E.out.symm,B1.out.bel⟩
 have H1:=ae h1;clear h1
 have c1:=B1.out.blk.cell 1 _ rfl
 by_cases h2:x.kind<1∨4<x.kind
 ·have E:Hid (bA x=9):=by show _=_;unfold bA;rw[if_neg (by rw[H1.out];decide),if_pos h2]
  by_cases h3:x.kind<1
  ·clear h2
   go_wp2_with fail
   go_ret
   exact⟨ap E.out.symm,B1.out.bel⟩
  ·have h4:4<x.kind:=by omega
   clear h2
   go_wp2_with fail
   go_ret
   exact⟨ap E.out.symm,B1.out.bel⟩
 have H2:=ae h2
 have k1:¬ x.kind<1:=fun h=>h2 (.inl h)
 have k2:¬ 4<x.kind:=fun h=>h2 (.inr h)
 clear h2
 have c2:=B1.out.blk.cell 2 _ rfl
 have c3:=B1.out.blk.cell 3 _ rfl
 have c4:=B1.out.blk.cell 4 _ rfl
 have c5:=B1.out.blk.cell 5 _ rfl
 have c7:=B1.out.blk.cell 7 _ rfl
 cases h3:ju x
 case true=>
  have E:Hid (bA x=1):=yV H1.out H2.out h3
  unfold ju at h3
  simp only[Bool.or_eq_true,decide_eq_true_iff] at h3
  have N:=ae h3
  clear h3
  go_wp2_with fail
  all_goals first | (go_ret;exact⟨ap E.out.symm,B1.out.bel⟩) | (exfalso;have:=N.out;omega)
 have H3:=ae h3
 unfold ju at h3
 simp only[Bool.or_eq_false_iff,decide_eq_false_iff_not] at h3
 obtain⟨⟨⟨⟨⟨⟨⟨n1,n2⟩,n3⟩,n4⟩,n5⟩,n6⟩,n7⟩,n8⟩:=h3
 have c6:=B1.out.blk.cell 6 _ rfl
 have c8:=B1.out.blk.cell 8 _ rfl
 have c9:=B1.out.blk.cell 9 _ rfl
 have c0:=B1.out.blk.cell 0 _ rfl
 go_wp2_with fail
 refine(AT x.owner _ (by have:=HS.out.owner;omega)).mono ?_;rintro e w2 ⟨rfl,rfl⟩
 clear n1 n2 n3 n4 n5 n6 n7 n8
 cases h4:kD x.owner
 ·have E:Hid (bA x=10):=nW H1.out H2.out H3.out (.inl h4)
  clear h4
  go_wp2_with fail
  go_ret
  exact⟨ap E.out.symm,B1.out.bel⟩
 have H4:=ae h4;clear h4
 go_wp2_with fail
 refine(AT x.group _ (by have:=HS.out.group;omega)).mono ?_;rintro e w2 ⟨rfl,rfl⟩
 cases h5:kD x.group
 ·have E:Hid (bA x=10):=nW H1.out H2.out H3.out (.inr h5)
  clear h5
  go_wp2_with fail
  go_ret
  exact⟨ap E.out.symm,B1.out.bel⟩
 have HE:Hid (bA x=vy x):=vz H1.out H2.out H3.out H4.out h5
 clear h5 H1 H2 H3 H4
 unfold vy at HE
 have HK:=HS.out.link
 have HD:=HS.out.data
 have hdm:¬ 1048576<x.data.length:=by omega
 have hdm2:¬ (1048576:Int)<(x.data.length:Int):=by omega
 rcases(by omega:x.kind=1∨x.kind=2∨x.kind=3∨x.kind=4) with hk | hk | hk | hk
 all_goals
  rw[hk] at c1 k1 k2
  have K:=ae hk
  clear hk
 ·by_cases hl:x.link.size=0
  ·have l1:=kW hl
   have HL:=ae hl;clear hl
   have R:Hid (bA x=0):=by show _=_;rw[HE.out];simp[K.out,HL.out,hdm]
   clear HE
   go_wp2_with fail
   go_ret
   exact⟨ap (by rw[R.out]),B1.out.bel⟩
  ·have l1:=jJ hl
   have l2:x.link.toList.isEmpty=false:=by cases h:x.link.toList with | nil=>exact absurd h l1 | cons a r=>rfl
   have HL:=ae hl;clear hl
   have R:Hid (bA x=1):=by show _=_;rw[HE.out];simp[K.out,HL.out]
   clear HE
   go_wp2_with fail
   go_ret
   exact⟨ap (by rw[R.out]),B1.out.bel⟩
 ·by_cases hl:x.link.size=0
  ·have l1:=kW hl
   have HL:=ae hl;clear hl
   by_cases hd0:0<x.data.length
   ·have d1:(0:Int)<(x.data.length:Int):=by omega
    have R:Hid (bA x=1):=by show _=_;rw[HE.out];simp[K.out,HL.out,hd0,hdm]
    clear HE
    go_wp2_with fail
    go_ret
    exact⟨ap (by rw[R.out]),B1.out.bel⟩
   ·have d1:¬ (0:Int)<(x.data.length:Int):=by omega
    have R:Hid (bA x=0):=by show _=_;rw[HE.out];simp[K.out,HL.out,hd0,hdm]
    clear HE
    go_wp2_with fail
    go_ret
    exact⟨ap (by rw[R.out]),B1.out.bel⟩
  ·have l1:=jJ hl
   have l2:x.link.toList.isEmpty=false:=by cases h:x.link.toList with | nil=>exact absurd h l1 | cons a r=>rfl
   have HL:=ae hl;clear hl
   have R:Hid (bA x=1):=by show _=_;rw[HE.out];simp[K.out,HL.out]
   clear HE
   go_wp2_with fail
   go_ret
   exact⟨ap (by rw[R.out]),B1.out.bel⟩
 ·have BAD:Hid (jl x.link=false→bA x=10):=fun ht=>by rw[HE.out];simp[K.out,ht]
  have TG:=ae (Hp x.link)
  by_cases hl:x.link.size=0
  ·have l1:=kW hl
   have R:Hid (bA x=10):=BAD.out (by rw[TG.out];simp[hl])
   clear HE hl
   go_wp2_with fail
   go_ret
   exact⟨ap (by rw[R.out]),B1.out.bel⟩
  have l1:=jJ hl
  have l2:x.link.toList.isEmpty=false:=by cases h:x.link.toList with | nil=>exact absurd h l1 | cons a r=>rfl
  have HL:=ae hl;clear hl
  by_cases hg:200<x.link.size
  ·have t5:(200:Int)<(x.link.size:Int):=by omega
   have R:Hid (bA x=10):=BAD.out (by rw[TG.out,dF (show ¬ x.link.size≤200 by omega)];simp)
   clear HE hg
   go_wp2_with fail
   go_ret
   exact⟨ap (by rw[R.out]),B1.out.bel⟩
  have t5:¬ (200:Int)<(x.link.size:Int):=by omega
  have HGT:=ae hg;clear hg
  go_wp2_with fail
  refine(qY x.link 0 _ (by omega)).mono ?_;rintro e w2 ⟨rfl,rfl⟩
  cases ha:iq (bl x.link) 0
  case true=>
   have R:Hid (bA x=10):=BAD.out (by rw[TG.out,ha];simp)
   clear HE ha
   go_wp2_with fail
   go_ret
   exact⟨ap (by rw[R.out]),B1.out.bel⟩
  have HA0:=ae ha;clear ha
  go_wp2_with fail
  refine(qY x.link 10 _ (by omega)).mono ?_;rintro e w2 ⟨rfl,rfl⟩
  cases ha:iq (bl x.link) 10
  case true=>
   have R:Hid (bA x=10):=BAD.out (by rw[TG.out,ha];simp)
   clear HE ha
   go_wp2_with fail
   go_ret
   exact⟨ap (by rw[R.out]),B1.out.bel⟩
  have HT:Hid (jl x.link=true):=by show _=_;rw[TG.out,HA0.out,ha];have:=HL.out;have:=HGT.out;simp;omega
  clear ha
  by_cases hd0:0<x.data.length
  ·have d1:(0:Int)<(x.data.length:Int):=by omega
   have R:Hid (bA x=1):=by show _=_;rw[HE.out];simp[K.out,HT.out,hd0,hdm]
   clear HE
   go_wp2_with fail
   go_ret
   exact⟨ap (by rw[R.out]),B1.out.bel⟩
  ·have d1:¬ (0:Int)<(x.data.length:Int):=by omega
   have R:Hid (bA x=0):=by show _=_;rw[HE.out];simp[K.out,HT.out,hd0,hdm]
   clear HE
   go_wp2_with fail
   go_ret
   exact⟨ap (by rw[R.out]),B1.out.bel⟩
 ·go_wp2_with fail
  refine(zd x.link _ (by omega)).mono ?_;rintro e w4 ⟨rfl,hb4⟩
  have B2:=ae (B1.out.step hb4)
  clear hb4 B1 c0 c1 c2 c3 c4 c5 c6 c7 c8 c9
  have c0:=B2.out.blk.cell 0 _ rfl
  have c1:=B2.out.blk.cell 1 _ rfl
  have c8:=B2.out.blk.cell 8 _ rfl
  have c9:=B2.out.blk.cell 9 _ rfl
  rw[K.out] at c1
  cases ht:cy (bl x.link)
  ·have R:Hid (bA x=10):=by show _=_;rw[HE.out];simp[K.out,ht]
   clear HE
   go_wp2_with fail
   go_ret
   exact⟨ap (by rw[R.out]),B2.out.bel⟩
  have HT:=ae ht;clear ht
  by_cases hlp:x.link=x.path
  ·have e1:(x.link.toList==x.path.toList)=true:=by rw[hlp];simp
   have HLP:=ae hlp;clear hlp
   have R:Hid (bA x=10):=by show _=_;rw[HE.out];simp[K.out,HT.out,HLP.out]
   clear HE
   go_wp2_with fail
   go_ret
   exact⟨ap (by rw[R.out]),B2.out.bel⟩
  have e1:(x.link.toList==x.path.toList)=false:=by rw[dx];exact dF hlp
  have HLP:=ae hlp;clear hlp
  by_cases hd0:0<x.data.length
  ·have d1:(0:Int)<(x.data.length:Int):=by omega
   have R:Hid (bA x=1):=by show _=_;rw[HE.out];simp[K.out,HT.out,HLP.out,hd0,hdm]
   clear HE
   go_wp2_with fail
   go_ret
   exact⟨ap (by rw[R.out]),B2.out.bel⟩
  ·have d1:¬ (0:Int)<(x.data.length:Int):=by omega
   have R:Hid (bA x=0):=by show _=_;rw[HE.out];simp[K.out,HT.out,HLP.out,hd0,hdm]
   clear HE
   go_wp2_with fail
   go_ret
   exact⟨ap (by rw[R.out]),B2.out.bel⟩
theorem xZ (x:am)(w:World)(hs:x.small):Calls Tryz.prog 45 #[.agg #[.string x.path,.int .i64 x.kind,.int .i64 x.mode,.int .i64 x.uid,.int .i64 x.gid,.string x.owner,.string x.group,.int .i64 x.mtime,.string x.link,.slice x.da x.data.length x.dc]] w fun e w'=>e=.returned (.int .i64 (bA x))∧Below w.heap.size w w':=AV x w hs
def uq (x y:am):Bool:=(ip (aL x.path) y.path&&(y.kind != 2))||(ip (aL y.path) x.path&&(x.kind != 2))
theorem wB (x y:am):gp x y=gp y x:=by
 rw[bI,AG,AG]
 exact⟨fun ⟨a,b,c,d,e,f⟩=>⟨a.symm,b.symm,c.symm,d.symm,e.symm,f.symm⟩,fun ⟨a,b,c,d,e,f⟩=>⟨a.symm,b.symm,c.symm,d.symm,e.symm,f.symm⟩⟩
theorem wC {l:List am}{s:BA}(hn:(l.map am.path).Nodup):(aV l s=none∧eU l s 0=-1)∨∃ (k:Nat)(y:am),aV l s=some y∧l[k]?=some y∧eU l s 0=k:=by
 cases h:aV l s with
 | none=>exact .inl ⟨rfl,Hs 0 (nX h)⟩
 | some y=>
  obtain⟨hm,hp⟩:=dA h
  obtain⟨k,hk⟩:=List.getElem?_of_mem hm
  exact .inr ⟨k,y,rfl,hk,by rw[Mq 0 hn hk hp];omega⟩
theorem Kz {pre:List am}{x y:am}(hn:(pre.map am.path).Nodup)(h1:bA x=0)(h2:aV pre x.path=none)(h3:x.kind=4→cC pre x=0)(hy:y∈pre)(hb:uq x y=true):fZ pre x=9:=by
 unfold uq at hb
 rw[Bool.or_eq_true,Bool.and_eq_true,Bool.and_eq_true] at hb
 by_cases ha:(aL x.path).any (fun s=>(aV pre s).any fun y=>decide (y.kind≠2))=true
 ·unfold fZ;rw[if_neg (by simpa using h1),if_neg (by rw[h2];simp),if_neg (fun h=>h.2 (h3 h.1)),if_pos ha]
 ·rcases hb with⟨b1,b2⟩ | ⟨b1,b2⟩
  ·exfalso
   apply ha
   rw[List.any_eq_true]
   refine⟨y.path,iL.1 b1,?_⟩
   rw[lP hy (fun z hz e=>by
    obtain⟨i,hi⟩:=List.getElem?_of_mem hz
    obtain⟨j,hj⟩:=List.getElem?_of_mem hy
    have:=AI hn i j z y hi hj e
    subst this;rw[hi] at hj;injection hj)]
   simpa using b2
  ·unfold fZ;rw[if_neg (by simpa using h1),if_neg (by rw[h2];simp),if_neg (fun h=>h.2 (h3 h.1)),if_neg ha,if_pos ⟨by simpa using b2,List.any_eq_true.2 ⟨y,hy,b1⟩⟩]
theorem KC {pre:List am}{x:am}(h1:bA x=0)(h2:aV pre x.path=none)(h3:x.kind=4→cC pre x=0)(hb:∀ y∈pre,uq x y=false):fZ pre x=0:=by
 refine IL h1 h2 h3 (fun s hs y hy=>?_) (fun hk y hy hm=>?_)
 ·obtain⟨hm,hp⟩:=dA hy
  have:=hb y hm
  unfold uq at this
  rw[Bool.or_eq_false_iff] at this
  have h:=this.1
  rw[hp,iL.2 hs] at h
  simpa using h
 ·have:=hb y hy
  unfold uq at this
  rw[Bool.or_eq_false_iff] at this
  have h:=this.2
  rw[iL.2 hm] at h
  exact hk (by simpa using h)
theorem Ht (A:OA)(cap:Nat)(l:List am)(i:Nat)(x:am)(w:World)(hx:l[i]?=some x)(hE:dz w A l)(hF:kY (l.take i))(hs:∀ x∈l,x.small)(hl:l.length≤100000)(hcap:l.length≤cap):
  Calls Tryz.prog 26 #[.slice A l.length cap,.int .i64 i] w fun e w'=>e=.returned (.int .i64 (fZ (l.take i) x))∧Below w.heap.size w w':=by
 have HE:=ae hE
 have HN:=ae (AH hF.nd)
 have HS:=ae hs
 have hlt:i<l.length:=(gS hx).1
 have SX:=ae (hs x (gM hx))
 obtain⟨b,off,hA,hel⟩:=hE.row.elem fi i x hx
 have hix:=fun W=>aI (T:=23) (E:=45) (sz:=10) (c:=cap) Tryz.underlying23 rfl Tryz.sizeOf45 hA hlt W
 have e0:=hel 0 _ rfl
 have e1:=hel 1 _ rfl
 have e2:=hel 2 _ rfl
 have e3:=hel 3 _ rfl
 have e4:=hel 4 _ rfl
 have e5:=hel 5 _ rfl
 have e6:=hel 6 _ rfl
 have e7:=hel 7 _ rfl
 have e8:=hel 8 _ rfl
 have e9:=hel 9 _ rfl
 simp only[Nat.add_zero] at e0
 have HX:=ae hx
 clear hE hF hs hx hA hel
 obtain⟨W3,hW3⟩:∃ W3,w.alloc (.cells #[.string x.path,.int .i64 x.kind,.int .i64 x.mode,.int .i64 x.uid,.int .i64 x.gid,.string x.owner,.string x.group,.int .i64 x.mtime,.string x.link,.slice x.da x.data.length x.dc] 45)=W3:=⟨_,rfl⟩
 have B3:Hid (EB w W3 x):=by show EB _ _ _;rw[←hW3];exact EB.start w x
 have c0:=B3.out.blk.cell 0 _ rfl
 have c1:=B3.out.blk.cell 1 _ rfl
 have c2:=B3.out.blk.cell 2 _ rfl
 have c3:=B3.out.blk.cell 3 _ rfl
 have c4:=B3.out.blk.cell 4 _ rfl
 have c5:=B3.out.blk.cell 5 _ rfl
 have c6:=B3.out.blk.cell 6 _ rfl
 have c7:=B3.out.blk.cell 7 _ rfl
 have c8:=B3.out.blk.cell 8 _ rfl
 have c9:=B3.out.blk.cell 9 _ rfl
 go_enter Tryz.func26,Tryz.ntmps26
 go_wp2_with fail
 clear hW3 e0 e1 e2 e3 e4 e5 e6 e7 e8 e9 c0 c1 c2 c3 c4 c5 c6 c7 c8 c9
 refine(xZ x _ SX.out).mono ?_;rintro e w4 ⟨rfl,hb4⟩
 have B4:=ae (B3.out.step hb4)
 clear hb4 B3 hix
 by_cases hce:bA x=0
 case neg=>
  have q0:(bA x != 0)=true:=by simpa using hce
  have R:Hid (fZ (l.take i) x=bA x):=En hce
  clear hce
  go_wp2_with fail
  go_ret
  exact⟨ap R.out.symm,B4.out.bel⟩
 have CE:=ae hce
 rw[hce]
 clear hce
 have c0:=B4.out.blk.cell 0 _ rfl
 have hst:=fun W=>In (T:=23) (E:=45) (sz:=10) (A:=A) (n:=l.length) (c:=cap) (k:=i) Tryz.underlying23 rfl Tryz.sizeOf45 (by omega) W
 have hic:(i:Int)≤(cap:Int):=by omega
 obtain⟨v1,hv1⟩:∃ v,eU (l.take i) x.path 0=v:=⟨_,rfl⟩
 have F1:=ae hv1
 clear hv1
 go_wp2_with fail
 go_quiet ((go_at_call 7;exact Calls.quiet_of_same (mI A cap i (l.take i) (by simp;omega) x.path _ (wA (HE.out.below (an B4.out.bel _)) i) (by simp;omega) _ F1.out)))
 have B5:Hid (EB w (w4.drewN nq) x):=B4.out.step (an bR _)
 generalize w4.drewN nq=w5 at *
 clear B4 c0
 rcases wC (s:=x.path) HN.out with⟨hf0,hf1⟩ | ⟨k0,y0,hf0,_,hf1⟩
 case inr=>
  have V1:v1=(k0:Int):=F1.out.symm.trans hf1
  have R:Hid (fZ (l.take i) x=8):=wu CE.out hf0
  have q1:(0:Int)≤(k0:Int):=by omega
  subst V1
  clear hf0 hf1
  go_wp2_with fail
  go_ret
  exact⟨ap R.out.symm,B5.out.bel⟩
 have V1:v1=-1:=F1.out.symm.trans hf1
 subst V1
 have FN:=ae hf0
 clear hf0 hf1 F1
 have c1:=B5.out.blk.cell 1 _ rfl
 go_upto_if 27 with(fail)
 go_cut [] (fun wx=>Hid (EB w wx x)∧Hid (x.kind=4→cC (l.take i) x=0))
 case first=>
  by_cases h4:x.kind=4
  case neg=>
   have q:(x.kind==4)=false:=by simpa using h4
   have H4:Hid (x.kind=4→cC (l.take i) x=0):=fun h=>absurd h h4
   clear h4
   go_wp2_with fail
   go_meet
   exact⟨B5,H4⟩
  have q:(x.kind==4)=true:=by simpa using h4
  have CK:Hid (cC (l.take i) x≠0→fZ (l.take i) x=cC (l.take i) x):=fun h=>oJ CE.out FN.out h4 h
  have H4:=ae h4
  clear h4
  obtain⟨v2,hv2⟩:∃ v,eU (l.take i) x.link 0=v:=⟨_,rfl⟩
  have F2:=ae hv2
  clear hv2
  have c8:=B5.out.blk.cell 8 _ rfl
  go_wp2_with fail
  go_quiet ((go_at_call 7;exact Calls.quiet_of_same (mI A cap i (l.take i) (by simp;omega) x.link _ (wA (HE.out.below (an B5.out.bel _)) i) (by simp;omega) _ F2.out)))
  have B6:Hid (EB w (w5.drewN nq) x):=B5.out.step (an bR _)
  generalize w5.drewN nq=w6 at *
  clear B5 c1 c8 q
  rcases wC (s:=x.link) HN.out with⟨hf0,hf1⟩ | ⟨k,y,hf0,hyk,hf1⟩
  case inl=>
   have V2:v2=-1:=F2.out.symm.trans hf1
   have HH:cC (l.take i) x=15:=by unfold cC;rw[hf0]
   have R:Hid (fZ (l.take i) x=15):=by show _=_;rw[CK.out (by rw[HH];decide),HH]
   subst V2
   clear hf0 hf1 HH
   go_wp2_with fail
   go_ret
   exact⟨ap R.out.symm,B6.out.bel⟩
  have V2:v2=(k:Int):=F2.out.symm.trans hf1
  subst V2
  have hki:k<i:=by have:=(gS hyk).1;simp at this;omega
  have hy:l[k]?=some y:=by rw[List.getElem?_take,if_pos hki] at hyk;exact hyk
  have HY0:=ae hf0
  clear hf0 hf1 F2 hyk
  have hkl:k<l.length:=by omega
  obtain⟨b2,off2,hA2,hel2⟩:=(HE.out.below B6.out.bel).row.elem fi k y hy
  have hixk:=fun W=>aI (T:=23) (E:=45) (sz:=10) (c:=cap) Tryz.underlying23 rfl Tryz.sizeOf45 hA2 hkl W
  have Y6:Hid (Hg w6 b2 (off2+k*10) y):=⟨hel2,(HE.out.below B6.out.bel).all y (gM hy)⟩
  clear hy hA2 hel2
  have y1:w6.cell? ⟨b2,off2+k*10+1,none⟩=some (.int .i64 y.kind):=Y6.out.cell 1 _ rfl
  have hk0:¬ (k:Int)<0:=by omega
  by_cases hy1:y.kind=1
  case neg=>
   have q1:(y.kind != 1)=true:=by simpa using hy1
   have HH:cC (l.take i) x=15:=by unfold cC;rw[HY0.out];simp[hy1]
   have R:Hid (fZ (l.take i) x=15):=by show _=_;rw[CK.out (by rw[HH];decide),HH]
   clear hy1 HH
   go_wp2_with fail
   go_ret
   exact⟨ap R.out.symm,B6.out.bel⟩
  rw[hy1] at y1
  have HY1:=ae hy1
  clear hy1
  obtain⟨vc,hvc⟩:∃ v,gp y x=v:=⟨_,rfl⟩
  have VC:=ae hvc
  clear hvc
  go_wp2_with fail
  refine OO (OJ fun O hO=>?_)
  have p0:=fC (k:=0) hO rfl
  have p1:=fC (k:=1) hO rfl
  have p2:=fC (k:=2) hO rfl
  have p3:=fC (k:=3) hO rfl
  have p4:=fC (k:=4) hO rfl
  have p5:=fC (k:=5) hO rfl
  have p6:=fC (k:=6) hO rfl
  have ok:∀ k,k<7→Dt O k=true:=by
   have h:(List.range 7).all (Dt O)=true:=by rw[hO];kernel_rfl
   intro k hk;exact List.all_eq_true.1 h k (List.mem_range.2 hk)
  have hns:Region.noSelect O=true:=by rw[hO];kernel_rfl
  have r5:Region.ready .any O (lst O.size 5)=[5]:=by rw[hO];kernel_rfl
  have r7:Region.ready .any O (lst O.size 7)=[]:=by rw[hO];kernel_rfl
  have hsz:O.size=7:=by rw[hO];rfl
  clear hO y1
  have B7:=ae (B6.out.step (fq (Below.refl _ w6)))
  have Y7:=ae (Y6.out.below (fq (Below.refl _ w6)))
  clear B6 Y6
  refine Kp (S:=fun w'=>(w'.cell? ⟨w.heap.size,0,none⟩=some (.string x.path)∧w'.cell? ⟨w.heap.size,1,none⟩=some (.int .i64 x.kind)∧w'.cell? ⟨w.heap.size,2,none⟩=some (.int .i64 x.mode)∧w'.cell? ⟨w.heap.size,3,none⟩=some (.int .i64 x.uid)∧w'.cell? ⟨w.heap.size,4,none⟩=some (.int .i64 x.gid)∧w'.cell? ⟨w.heap.size,5,none⟩=some (.string x.owner)∧w'.cell? ⟨w.heap.size,6,none⟩=some (.string x.group)∧w'.cell? ⟨w.heap.size,7,none⟩=some (.int .i64 x.mtime)∧w'.cell? ⟨w.heap.size,8,none⟩=some (.string x.link)∧w'.cell? ⟨w.heap.size,9,none⟩=some (.slice x.da x.data.length x.dc))∧(w'.cell? ⟨b2,off2+k*10,none⟩=some (.string y.path)∧w'.cell? ⟨b2,off2+k*10+1,none⟩=some (.int .i64 y.kind)∧w'.cell? ⟨b2,off2+k*10+2,none⟩=some (.int .i64 y.mode)∧w'.cell? ⟨b2,off2+k*10+3,none⟩=some (.int .i64 y.uid)∧w'.cell? ⟨b2,off2+k*10+4,none⟩=some (.int .i64 y.gid)∧w'.cell? ⟨b2,off2+k*10+5,none⟩=some (.string y.owner)∧w'.cell? ⟨b2,off2+k*10+6,none⟩=some (.string y.group)∧w'.cell? ⟨b2,off2+k*10+7,none⟩=some (.int .i64 y.mtime)∧w'.cell? ⟨b2,off2+k*10+8,none⟩=some (.string y.link)∧w'.cell? ⟨b2,off2+k*10+9,none⟩=some (.slice y.da y.data.length y.dc))) (by kernel_rfl) ⟨B7.out.lim,Y7.out.lim10⟩ (fun hHeld=>?_)
  rw[show wpAnyH _ _ O _ _ O.size=wpAnyH _ _ O _ _ 7 by rw[hsz]]
  refine' eV ok hns p0 ?_
  (try simp only[sA,sB,sC])
  refine' eV ok hns p1 ?_
  (try simp only[sA,sB,sC])
  refine' eV ok hns p2 ?_
  (try simp only[sA,sB,sC])
  refine' eV ok hns p3 ?_
  (try simp only[sA,sB,sC])
  refine' eV ok hns p4 ?_
  (try simp only[sA,sB,sC])
  refine' MO (fun w'=>Below w6.drew.heap.size w6.drew w') (k:=5) (j:=49) (v:=.bool vc) r5 p5 rfl (by unfold Region.wanted;rfl) (fun w' h=>⟨(B7.out.step h).lim,(Y7.out.below h).lim10⟩) ?hc5 (fun w7 hb7 hS7=>?rr5)
  case hc5=>
   intro K hK
   go_simp
   refine(Ds y x _).mono ?_;rintro e w2 ⟨rfl,hb2⟩
   rw[VC.out]
   (try go_simp)
   exact hK w2 hb2
  have B8:=ae (B7.out.step hb7)
  clear hHeld hb7 B7 Y7
  (try simp only[sA,sB,sC])
  refine' eV ok hns p6 ?_
  (try simp only[sA,sB,sC])
  refine MP r7 ?_
  clear ok hns r5 r7 hsz p0 p1 p2 p3 p4 p5 p6 hS7 hixk
  cases vc
  case false=>
   have HH:cC (l.take i) x=1:=by unfold cC;rw[HY0.out];simp[HY1.out,wB x y,VC.out]
   have R:Hid (fZ (l.take i) x=1):=by show _=_;rw[CK.out (by rw[HH];decide),HH]
   clear HH
   go_wp2_with fail
   go_ret
   exact⟨ap R.out.symm,B8.out.bel⟩
  case true=>
   have HH:Hid (x.kind=4→cC (l.take i) x=0):=fun _=>yX HY0.out HY1.out (by rw[wB,VC.out])
   go_wp2_with fail
   go_meet
   exact⟨B8,HH⟩
 case rest=>
  obtain⟨B9,HD⟩:=hcut
  clear B5 c1
  go_wp2_with fail
  go_loopw [8] (fun s wr=>∃ k:Nat,k≤i∧s=.int .i64 k∧Hid (EB w wr x)∧Hid (∀ (j:Nat)(y:am),j<k→l[j]?=some y→uq x y=false)) (fun s _=>i-(intOf s).toNat)
  case atStart=>exact⟨0,z0,rfl,B9,fun j y h=>by omega⟩
  case round=>
   clear B9
   obtain⟨k,hk,rfl,B1,NB⟩:=hrel
   by_cases hki:k<i
   case neg=>
    have hki2:¬ (k:Int)<(i:Int):=by omega
    have R:Hid (fZ (l.take i) x=0):=KC CE.out FN.out HD.out fun y hy=>by
     obtain⟨j,hj,hjy⟩:=sj hy
     exact NB.out j y (by omega) hjy
    clear hki
    go_wp2_with fail
    go_ret
    exact⟨ap R.out.symm,B1.out.bel⟩
   have hki2:(k:Int)<(i:Int):=by omega
   have hkl:k<l.length:=by omega
   obtain⟨y,hy⟩:∃ y,l[k]?=some y:=⟨_,gG hkl⟩
   obtain⟨b2,off2,hA2,hel2⟩:=(HE.out.below B1.out.bel).row.elem fi k y hy
   have hixk:=fun W=>aI (T:=23) (E:=45) (sz:=10) (c:=cap) Tryz.underlying23 rfl Tryz.sizeOf45 hA2 hkl W
   have y0:=hel2 0 _ rfl
   have y1:=hel2 1 _ rfl
   simp only[Nat.add_zero] at y0
   have SY:=(HS.out y (gM hy)).path
   have SX':=SX.out.path
   have c0:=B1.out.blk.cell 0 _ rfl
   have c1:=B1.out.blk.cell 1 _ rfl
   obtain⟨va,hva⟩:∃ v,ip (aL x.path) y.path=v:=⟨_,rfl⟩
   obtain⟨vb,hvb⟩:∃ v,ip (aL y.path) x.path=v:=⟨_,rfl⟩
   have A1:=ae fun W=>uo y.path x.path W (by omega) (by omega) va hva
   have A2:=ae fun W=>uo x.path y.path W (by omega) (by omega) vb hvb
   obtain⟨za,hza⟩:∃ v,(y.kind != 2)=v:=⟨_,rfl⟩
   obtain⟨zb,hzb⟩:∃ v,(x.kind != 2)=v:=⟨_,rfl⟩
   have BP:Hid (uq x y=((va&&za)||(vb&&zb))):=by show _=_;unfold uq;rw[hva,hvb,hza,hzb]
   have HY:=ae hy
   clear hy hA2 hel2 hva hvb
   go_upto_region 16 with(fail)
   go_cut [86] (fun v wx=>v=.bool (uq x y)∧Hid (EB w wx x))
   case first=>
    cases va
    case false=>
     cases vb
     case false=>
      go_quiet (first | (go_at_call 47;with_reducible exact Calls.quiet_of_same (A1.out _)) | (go_at_call 47;with_reducible exact Calls.quiet_of_same (A2.out _)))
      go_wp2_with fail
      go_meet
      exact⟨by rw[BP.out];rfl,B1.out.step (an bR _)⟩
     case true=>
      cases zb
      case false=>
       go_quiet (first | (go_at_call 47;with_reducible exact Calls.quiet_of_same (A1.out _)) | (go_at_call 47;with_reducible exact Calls.quiet_of_same (A2.out _)))
       go_wp2_with fail
       go_meet
       exact⟨by rw[BP.out];rfl,B1.out.step (an bR _)⟩
      case true=>
       go_quiet (first | (go_at_call 47;with_reducible exact Calls.quiet_of_same (A1.out _)) | (go_at_call 47;with_reducible exact Calls.quiet_of_same (A2.out _)))
       go_wp2_with fail
       go_meet
       exact⟨by rw[BP.out];rfl,B1.out.step (an bR _)⟩
    case true=>
     cases za
     case false=>
      cases vb
      case false=>
       go_quiet (first | (go_at_call 47;with_reducible exact Calls.quiet_of_same (A1.out _)) | (go_at_call 47;with_reducible exact Calls.quiet_of_same (A2.out _)))
       go_wp2_with fail
       go_meet
       exact⟨by rw[BP.out];rfl,B1.out.step (an bR _)⟩
      case true=>
       cases zb
       case false=>
        go_quiet (first | (go_at_call 47;with_reducible exact Calls.quiet_of_same (A1.out _)) | (go_at_call 47;with_reducible exact Calls.quiet_of_same (A2.out _)))
        go_wp2_with fail
        go_meet
        exact⟨by rw[BP.out];rfl,B1.out.step (an bR _)⟩
       case true=>
        go_quiet (first | (go_at_call 47;with_reducible exact Calls.quiet_of_same (A1.out _)) | (go_at_call 47;with_reducible exact Calls.quiet_of_same (A2.out _)))
        go_wp2_with fail
        go_meet
        exact⟨by rw[BP.out];rfl,B1.out.step (an bR _)⟩
     case true=>
      go_quiet (first | (go_at_call 47;with_reducible exact Calls.quiet_of_same (A1.out _)) | (go_at_call 47;with_reducible exact Calls.quiet_of_same (A2.out _)))
      go_wp2_with fail
      go_meet
      exact⟨by rw[BP.out];rfl,B1.out.step (an bR _)⟩
   case rest=>
    obtain⟨rfl,B2⟩:=hcut
    clear B1 c0 c1 y0 y1 A1 A2 hza hzb
    cases hbp:uq x y
    case false=>
     have NX:Hid (∀ (j:Nat)(z:am),j<k+1→l[j]?=some z→uq x z=false):=fun j z hj hz=>by
      by_cases hjk:j=k
      ·subst hjk;rw[HY.out] at hz;injection hz with hz;subst hz;exact hbp
      ·exact NB.out j z (by omega) hz
     clear hbp
     go_wp2_with fail
     go_roundw
     case rel=>exact⟨k+1,by omega,by go_num,B2,NX⟩
     case measure=>simp[intOf];omega
    case true=>
     have R:Hid (fZ (l.take i) x=9):=Kz HN.out CE.out FN.out HD.out (nY HY.out hki) hbp
     clear hbp
     go_wp2_with fail
     go_ret
     exact⟨ap R.out.symm,B2.out.bel⟩
theorem Hu {l:List am}{k:Nat}(h:∀ (j:Nat)(x:am),j<k→l[j]?=some x→fZ (l.take j) x=0):kY (l.take k):=by
 refine DS ((oZ (l.take k) []).2 fun j x hj=>?_)
 rw[List.getElem?_take] at hj
 split at hj
 ·rename_i hjk
  rw[List.nil_append,List.take_take,show min j k=j by omega]
  exact h j x hjk hj
 ·cases hj
theorem ur (A:OA)(cap:Nat)(l:List am)(w:World)(hE:dz w A l)(hs:∀ x∈l,x.small)(hl:l.length≤100000)(hcap:l.length≤cap):
  Calls Tryz.prog 8 #[.slice A l.length cap] w fun e w'=>e=.returned (.tuple #[.int .i64 (nR l).1,.int .i64 (nR l).2])∧Below w.heap.size w w':=by
 have HE:=ae hE
 have HS:=ae hs
 clear hE hs
 go_enter Tryz.func8,Tryz.ntmps8
 by_cases h0:4096<l.length
 case pos=>
  have hl2:(4096:Int)<(l.length:Int):=by omega
  have R:Hid (nR l=(4096,4)):=by show _=_;unfold nR;rw[if_pos h0]
  clear h0
  go_wp2_with fail
  go_ret2
  exact⟨by rw[R.out];rfl,bR⟩
 have hl2:¬ (4096:Int)<(l.length:Int):=by omega
 have CA:Hid (nR l=eW [] l):=by show _=_;unfold nR;rw[if_neg h0]
 clear h0
 go_wp2_with fail
 go_loopw [4] (fun s wr=>∃ k:Nat,k≤l.length∧s=.int .i64 k∧Hid (Below w.heap.size w wr)∧Hid (eW [] l=eW (l.take k) (l.drop k))∧Hid (∀ (j:Nat)(x:am),j<k→l[j]?=some x→fZ (l.take j) x=0)) (fun s _=>l.length-(intOf s).toNat)
 case atStart=>exact⟨0,z0,rfl,bR,rfl,fun j x h=>by omega⟩
 case round=>
  obtain⟨k,hk,rfl,B1,AE,NB⟩:=hrel
  by_cases hlt:k<l.length
  case neg=>
   have R:Hid (nR l=(0,0)):=by show _=_;rw[CA.out,yP (by omega) AE.out]
   go_wp2_with fail
   go_ret2
   exact⟨by rw[R.out];rfl,B1.out⟩
  obtain⟨x,hx⟩:∃ x,l[k]?=some x:=⟨_,gG hlt⟩
  have HX:=ae hx
  have RB:=Ht A cap l k x wr hx (HE.out.below B1.out) (Hu NB.out) HS.out hl hcap
  clear hx
  go_wp2_with fail
  refine RB.mono ?_;rintro e w2 ⟨rfl,hb2⟩
  have B2:Hid (Below w.heap.size w w2):=aq B1.out hb2
  clear hb2 RB
  by_cases hc:fZ (l.take k) x=0
  case pos=>
   have AN:=ae (vu HX.out AE.out hc)
   have NX:Hid (∀ (j:Nat)(z:am),j<k+1→l[j]?=some z→fZ (l.take j) z=0):=fun j z hj hz=>by
    by_cases hjk:j=k
    ·subst hjk;rw[HX.out] at hz;injection hz with hz;subst hz;exact hc
    ·exact NB.out j z (by omega) hz
   rw[hc]
   clear hc
   go_wp2_with fail
   go_roundw
   case rel=>exact⟨k+1,by omega,by go_num,B2,AN,NX⟩
   case measure=>simp[intOf];omega
  case neg=>
   have q:(fZ (l.take k) x != 0)=true:=by simpa using hc
   have R:Hid (nR l=(k,fZ (l.take k) x)):=by show _=_;rw[CA.out,yO HX.out AE.out hc]
   clear hc
   go_wp2_with fail
   go_ret2
   exact⟨by rw[R.out];rfl,B2.out⟩
end
end Go.Proofs.YtaohgmcbpafdeaaGreatDoor
