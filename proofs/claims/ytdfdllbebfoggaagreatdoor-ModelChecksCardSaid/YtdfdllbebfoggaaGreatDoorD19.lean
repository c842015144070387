/- A part of the proof that ModelChecks holds. No condition. -/
import Derived.Test.YtdfdllbebfoggaaGreatDoorD16
import Derived.Test.YtdfdllbebfoggaaGreatDoorD18
set_option maxRecDepth 100000
set_option maxHeartbeats 20000000
set_option linter.unusedVariables false
set_option linter.unusedSimpArgs false
namespace Go.Proofs.YtdfdllbebfoggaaGreatDoor
section
open Go.RowKit
def splitP (l:LU):Option (LU×LU×LU):=(apkA l).map fun x=>([],x.2.1,x.2.2)
def splitF (fmt:Int)(l:LU):Option (LU×LU×LU):=if fmt=1 then splitD l else if fmt=2 then splitR l else splitP l
theorem version_Split_apk (s:BA)(w:World)(hG:Gl w)(hs:s.size≤64):
  Calls Tryz.prog 59 #[.int .i64 3,.string s] w (SplitAns (splitP (bl s)) w):=by
 have HG:=hid hG;clear hG
 go_enter Tryz.func59,Tryz.ntmps59
 go_wp2_with fail
 refine(version_pieces s _ HG.out hs).mono ?_
 rintro e w1 ⟨hb1,hm⟩
 cases ha:apkA (bl s) with
 | none=>
  rw[ha] at hm
  obtain⟨A,n,c,p,q,rfl⟩:=hm
  have HR:Hid (splitP (bl s)=none):=by show _=_;unfold splitP;rw[ha];rfl
  clear ha
  go_wp2_with fail
  refine bodyPost_ret (results_tmp4 rfl _ _ _) rfl ?_
  exact⟨⟨#[]⟩,⟨#[]⟩,⟨#[]⟩,3,rfl,by rw[HR.out];exact⟨rfl,rfl,rfl,rfl⟩,hb1⟩
 | some x=>
  obtain⟨ps,p,q⟩:=x
  rw[ha] at hm
  obtain⟨A,c,rfl,_⟩:=hm
  have HR:Hid (splitP (bl s)=some ([],p,q)):=by show _=_;unfold splitP;rw[ha];rfl
  clear ha
  go_wp2_with fail
  refine bodyPost_ret (results_tmp4 rfl _ _ _) rfl ?_
  exact⟨⟨#[]⟩,⟨p.toArray⟩,⟨q.toArray⟩,0,rfl,by rw[HR.out];exact⟨rfl,rfl,bl_mk p,bl_mk q⟩,hb1⟩
theorem version_Split_any (fmt:Int)(hf:fmt=1∨fmt=2∨fmt=3)(s:BA)(w:World)(hG:Gl w)(hs:s.size≤64):
  Calls Tryz.prog 59 #[.int .i64 fmt,.string s] w (SplitAns (splitF fmt (bl s)) w):=by
 rcases hf with rfl | rfl | rfl
 ·exact version_Split_dpkg s w hG hs
 ·exact version_Split_rpm s w hG hs
 ·exact version_Split_apk s w hG hs
def verE (fmt:Int)(s:BA):Int:=if ¬ (fmt=1∨fmt=2∨fmt=3) then 9 else if 64<s.size then 4 else verCode (splitF fmt (bl s))
theorem version_Split_bad (fmt:Int)(s:BA)(w:World)(hs:s.size≤9223372036854775807)(h:¬ (fmt=1∨fmt=2∨fmt=3)∨64<s.size):
  Calls Tryz.prog 59 #[.int .i64 fmt,.string s] w fun e w'=>e=.returned (.tuple #[.string ⟨#[]⟩,.string ⟨#[]⟩,.string ⟨#[]⟩,.int .i64 (verE fmt s)])∧w=w':=by
 by_cases hf:fmt=1∨fmt=2∨fmt=3
 ·have h64:64<s.size:=h.resolve_left (fun hn=>hn hf)
  have E:Hid (verE fmt s=4):=by show _=_;unfold verE;rw[if_neg (fun hn=>hn hf),if_pos h64]
  clear h
  rcases hf with rfl | rfl | rfl
  all_goals
   go_enter Tryz.func59,Tryz.ntmps59
   go_wp2_with fail
   refine bodyPost_ret (results_tmp4 rfl _ _ _) rfl ?_
   exact⟨by rw[E.out];rfl,rfl⟩
 ·have E:Hid (verE fmt s=9):=by show _=_;unfold verE;rw[if_pos hf]
  have q1:(fmt != 1)=true:=by simp[bne];omega
  have q2:(fmt != 2)=true:=by simp[bne];omega
  have q3:(fmt != 3)=true:=by simp[bne];omega
  clear h hf
  go_enter Tryz.func59,Tryz.ntmps59
  go_wp2_with fail
  refine bodyPost_ret (results_tmp4 rfl _ _ _) rfl ?_
  exact⟨by rw[E.out];rfl,rfl⟩
theorem version_Check_any (fmt:Int)(s:BA)(w:World)(hG:Gl w)(hs:s.size≤9223372036854775807):
  Calls Tryz.prog 31 #[.int .i64 fmt,.string s] w fun e w'=>e=.returned (.int .i64 (verE fmt s))∧Below w.heap.size w w':=by
 have HG:=hid hG;clear hG
 by_cases h:¬ (fmt=1∨fmt=2∨fmt=3)∨64<s.size
 ·have HH:=hid h;clear h
  go_enter Tryz.func31,Tryz.ntmps31
  go_wp2_with fail
  refine(version_Split_bad fmt s _ hs HH.out).mono ?_
  rintro e w1 ⟨rfl,rfl⟩
  go_wp2_with fail
  go_ret
  exact⟨rfl,bR⟩
 ·have hf:fmt=1∨fmt=2∨fmt=3:=Classical.byContradiction fun hn=>h (.inl hn)
  have h64:¬ 64<s.size:=fun hn=>h (.inr hn)
  have E:Hid (verE fmt s=verCode (splitF fmt (bl s))):=by show _=_;unfold verE;rw[if_neg (fun hn=>hn hf),if_neg h64]
  have HF:=hid hf
  clear h hf
  go_enter Tryz.func31,Tryz.ntmps31
  go_wp2_with fail
  refine(version_Split_any fmt HF.out s _ HG.out (by omega)).mono ?_
  rintro e w1 ⟨ep,pr,rv,c,rfl,hr,hb1⟩
  have HR:=hid hr;clear hr
  go_wp2_with fail
  go_ret
  refine⟨ret_int ?_,hb1⟩
  rw[E.out]
  have hr:=HR.out
  cases h:splitF fmt (bl s) with
  | none=>rw[h] at hr;exact hr.1
  | some x=>obtain⟨a,b,d⟩:=x;rw[h] at hr;exact hr.1
end
theorem all_runN {p:UInt8→Bool}:∀ (l:LU)(k:Nat)(c:UInt8),l[k]?=some c→p c=false→((l.take k).all p=true↔runN p l=k)
 | [],k,c,h,_=>by simp at h
 | a::r,0,c,h,hc=>by
  simp at h;subst h
  simp[runN,List.takeWhile,hc]
 | a::r,k+1,c,h,hc=>by
  have ih:=all_runN r k c (by simpa using h) hc
  rw[List.take_succ_cons,List.all_cons]
  cases ha:p a
  ·simp[runN,List.takeWhile,ha]
  ·simp only[runN,List.takeWhile,ha,Bool.true_and,List.length_cons] at ih ⊢
   rw[ih];simp[runN]
theorem epoch_at {l:LU}{k:Nat}(h0:(l.take k).contains 58=false)(h1:l[k]?=some 58):epochOf l=if 1≤k∧k≤9∧runN digB l=k then some (l.take k,l.drop (k+1)) else none:=by
 have hk:k<l.length:=(gS h1).1
 have hl:(l.take k).length=k:=by rw[List.length_take];omega
 unfold epochOf
 rw[cut_of l k h0 h1]
 simp only[if_true]
 have hr:=all_runN (p:=digB) l k 58 h1 (by decide)
 by_cases h:1≤k∧k≤9∧runN digB l=k
 ·rw[if_pos h,if_pos]
  refine⟨?_,by rw[hl];exact h.2.1⟩
  unfold numB
  rw[hr.2 h.2.2]
  have:(l.take k).isEmpty=false:=by cases hh:l.take k with
   | nil=>rw[hh] at hl;simp at hl;omega
   | cons=>rfl
  rw[this];rfl
 ·rw[if_neg h,if_neg]
  rintro⟨ha,hb⟩
  apply h
  unfold numB at ha
  rw[Bool.and_eq_true] at ha
  refine⟨?_,by rw[hl] at hb;exact hb,hr.1 ha.2⟩
  rcases Nat.eq_zero_or_pos k with h0 | h0
  ·subst h0;simp at ha
  ·exact h0
theorem epoch_none {l:LU}(h:l.contains 58=false):epochOf l=some ([],l):=by
 unfold epochOf;rw[cut_none l h];simp
theorem epochR_of (l:LU):epochR l=match epochOf l with
  | none=>none
  | some (ep,p)=>if noughtB ep=false then some (ep,p) else none:=by
 unfold epochR epochOf
 by_cases h:(Lib.cut l [58]).2.2=true
 ·rw[if_pos h,if_pos h]
  by_cases h1:numB (Lib.cut l [58]).1=true∧(Lib.cut l [58]).1.length≤9
  ·rw[if_pos h1]
   by_cases h2:noughtB (Lib.cut l [58]).1=false
   ·rw[if_pos ⟨h1.1,h1.2,h2⟩];simp[h2]
   ·rw[if_neg (fun hh=>h2 hh.2.2)];simp[h2]
  ·rw[if_neg h1,if_neg (fun hh=>h1 ⟨hh.1,hh.2.1⟩)]
 ·rw[if_neg h,if_neg h];rfl
theorem lastL_spec (c:UInt8):∀ (l:LU),(lastL c l=none→c ∉ l)∧∀ i,lastL c l=some i→l[i]?=some c
 | []=>⟨fun _=>by simp,fun i h=>by simp[lastL] at h⟩
 | x::r=>by
  obtain⟨h1,h2⟩:=lastL_spec c r
  cases hr:lastL c r with
  | none=>
   by_cases hx:x=c
   ·have e:lastL c (x::r)=some 0:=by simp[lastL,hr,hx]
    rw[e]
    exact⟨fun h=>(by cases h),fun i h=>by injection h with h;subst h;simp[hx]⟩
   ·have e:lastL c (x::r)=none:=by simp[lastL,hr,hx]
    rw[e]
    refine⟨fun _ hm=>?_,fun i h=>(by cases h)⟩
    rcases List.mem_cons.1 hm with hm | hm
    ·exact hx hm.symm
    ·exact h1 hr hm
  | some k=>
   have e:lastL c (x::r)=some (k+1):=by simp[lastL,hr]
   rw[e]
   exact⟨fun h=>(by cases h),fun i h=>by injection h with h;subst h;simpa using h2 k hr⟩
theorem vmade_dash {o l:LU}(ho:o.contains 45=false)(h:(45:UInt8)∈l):vmadeB o l=false:=by
 unfold vmadeB
 have:l.all (vchB o)=false:=by
  rw[List.all_eq_false]
  refine⟨45,h,?_⟩
  unfold vchB;rw[ho];decide
 rw[this,Bool.and_false]
theorem restR_of (p:LU):restR p=match lastL 45 p with
  | none=>none
  | some i=>if (vmadeB rO (p.take i)&&vmadeB rO (p.drop (i+1)))=true then some (p.take i,p.drop (i+1)) else none:=by
 obtain⟨h1,h2⟩:=lastL_spec 45 p
 cases hl:lastL 45 p with
 | none=>
  unfold restR
  rw[cut_none p (by have:=h1 hl;simpa using this)]
  have:vmadeB rO ([]:LU)=false:=rfl
  rw[this,Bool.and_false];rfl
 | some i=>
  have hi:=h2 i hl
  have hil:i<p.length:=(gS hi).1
  cases hc:(p.take i).contains 45
  ·unfold restR
   rw[cut_of p i hc hi]
  ·have hm:(45:UInt8)∈p.take i:=by simpa using hc
   show restR p=if (vmadeB rO (p.take i)&&vmadeB rO (p.drop (i+1)))=true then some (p.take i,p.drop (i+1)) else none
   rw[vmade_dash (o:=rO) (by decide) hm,Bool.false_and,if_neg (by simp)]
   obtain⟨k,hk,hn,hg⟩:=splitK_psplit.indexByte_mem 45 (p.take i) hm
   have hki:k<i:=by have:=(gS hg).1;rw[List.length_take] at this;omega
   have hpk:p[k]?=some 45:=by rw[List.getElem?_take_of_lt hki] at hg;exact hg
   have hpn:(p.take k).contains 45=false:=by
    rw[List.take_take,Nat.min_eq_left (by omega)] at hn
    simpa using hn
   unfold restR
   rw[cut_of p k hpn hpk]
   have hd:(45:UInt8)∈p.drop (k+1):=by
    refine List.mem_iff_getElem?.2 ⟨i-(k+1),?_⟩
    rw[List.getElem?_drop,show k+1+(i-(k+1))=i by omega,hi]
   simp only[vmade_dash (o:=rO) (by decide) hd,Bool.and_false]
   rfl
theorem vmade_nodash {l:LU}(h:(45:UInt8) ∉ l):vmadeB [46,43,126,45] l=vmadeB [46,43,126] l:=by
 unfold vmadeB
 congr 1
 rw[bI,List.all_eq_true,List.all_eq_true]
 have key:∀ x∈l,vchB [46,43,126,45] x=vchB [46,43,126] x:=by
  intro x hx
  have hne:x≠45:=fun e=>h (e ▸ hx)
  unfold vchB
  congr 1
  rw[bI];simp[hne]
 exact⟨fun hh x hx=>by rw[←key x hx];exact hh x hx,fun hh x hx=>by rw[key x hx];exact hh x hx⟩
def partF (fmt:Int)(ep p:LU):Option (LU×LU×LU):=match lastL 45 p with
 | none=>if fmt=2 then none else if (vmadeB [46,43,126] p&&headDig p)=true then some (ep,p,[]) else none
 | some i=>if fmt=2 then (if (vmadeB rO (p.take i)&&vmadeB rO (p.drop (i+1)) && !noughtB ep)=true then some (ep,p.take i,p.drop (i+1)) else none)
  else if (vmadeB [46,43,126,45] (p.take i)&&headDig (p.take i)&&vmadeB [46,43,126] (p.drop (i+1)))=true then some (ep,p.take i,p.drop (i+1)) else none
theorem splitF_none {fmt:Int}(hf:fmt=1∨fmt=2){l:LU}(h:epochOf l=none):splitF fmt l=none:=by
 unfold splitF
 rcases hf with rfl | rfl
 ·rw[if_pos rfl];unfold splitD;rw[h]
 ·rw[if_neg (by decide),if_pos rfl];unfold splitR;rw[epochR_of,h]
theorem splitF_some {fmt:Int}(hf:fmt=1∨fmt=2){l ep p:LU}(h:epochOf l=some (ep,p)):splitF fmt l=partF fmt ep p:=by
 unfold splitF partF
 rcases hf with rfl | rfl
 ·rw[if_pos rfl];unfold splitD;rw[h]
  simp only[restD]
  cases hl:lastL 45 p with
  | none=>
   rw[vmade_nodash ((lastL_spec 45 p).1 hl)]
   simp only[if_neg (show ¬ (1:Int)=2 by decide)]
   cases(vmadeB [46,43,126] p&&headDig p)<;>rfl
  | some i=>
   simp only[if_neg (show ¬ (1:Int)=2 by decide)]
   cases vmadeB [46,43,126] (p.drop (i+1))<;>cases(vmadeB [46,43,126,45] (p.take i)&&headDig (p.take i))<;>rfl
 ·rw[if_neg (by decide),if_pos rfl];unfold splitR;rw[epochR_of,h]
  simp only[]
  cases hn:noughtB ep
  ·simp only[if_true,restR_of]
   cases hl:lastL 45 p with
   | none=>rfl
   | some i=>simp only[if_true];cases vmadeB rO (p.take i)<;>cases vmadeB rO (p.drop (i+1))<;>rfl
  ·cases hl:lastL 45 p with
   | none=>rfl
   | some i=>simp
section
open Go.RowKit
def nameF (fmt:Int)(l:LU):Bool:=if fmt=1 then dnameB l else if fmt=2 then rnameB l else anameB l
theorem model_nameRight (fmt:Int)(s:BA)(w:World)(hs:s.size≤9223372036854775807):
  Calls Tryz.prog 62 #[.int .i64 fmt,.string s] w fun e w'=>e=.returned (.bool (nameF fmt (bl s)))∧w=w':=by
 by_cases h1:fmt=1
 ·subst h1
  have E:Hid (nameF 1 (bl s)=dnameB (bl s)):=rfl
  go_enter Tryz.func62,Tryz.ntmps62
  go_wp2_with fail
  refine(ddep_Name s _ hs).mono ?_;rintro e w' ⟨rfl,rfl⟩
  go_wp2_with fail
  go_ret
  exact⟨ret_bool E.out.symm,rfl⟩
 have g1:(fmt==1)=false:=by simpa using h1
 by_cases h2:fmt=2
 ·subst h2
  have E:Hid (nameF 2 (bl s)=rnameB (bl s)):=rfl
  clear h1 g1
  go_enter Tryz.func62,Tryz.ntmps62
  go_wp2_with fail
  refine(rdep_Name s _ hs).mono ?_;rintro e w' ⟨rfl,rfl⟩
  go_wp2_with fail
  go_ret
  exact⟨ret_bool E.out.symm,rfl⟩
 have g2:(fmt==2)=false:=by simpa using h2
 have E:Hid (nameF fmt (bl s)=anameB (bl s)):=by show _=_;unfold nameF;rw[if_neg h1,if_neg h2]
 clear h1 h2
 go_enter Tryz.func62,Tryz.ntmps62
 go_wp2_with fail
 refine(adep_Name s _ hs).mono ?_;rintro e w' ⟨rfl,rfl⟩
 go_wp2_with fail
 go_ret
 exact⟨ret_bool E.out.symm,rfl⟩
def giveB (fmt:Int)(x:AtomM):Bool:=nameF fmt (bl x.nm)&&(if x.op=0 then decide (x.ver.size=0) else decide (x.op=3)&&decide (verE fmt x.ver=0))
def givesB (fmt:Int)(l:List AtomM):Bool:=decide (l.length≤32)&&l.all (giveB fmt)
theorem gives_large {fmt:Int}{l:List AtomM}(h:32<l.length):givesB fmt l=false:=by
 unfold givesB;rw[dF (by omega)];rfl
theorem gives_bad {fmt:Int}{l:List AtomM}{x:AtomM}(h:x∈l)(hx:giveB fmt x=false):givesB fmt l=false:=by
 unfold givesB
 have:l.all (giveB fmt)=false:=by rw[List.all_eq_false];exact⟨x,h,by rw[hx];simp⟩
 rw[this];simp
theorem gives_good {fmt:Int}{l:List AtomM}(h:¬ 32<l.length)(hx:∀ (j:Nat) x,l[j]?=some x→giveB fmt x=true):givesB fmt l=true:=by
 unfold givesB
 have:l.all (giveB fmt)=true:=by rw[List.all_eq_true];intro x hm;obtain⟨j,hj⟩:=List.getElem?_of_mem hm;exact hx j x hj
 rw[this,dT (by omega)];rfl
theorem model_givesRight (fmt:Int)(A:Option Addr)(c:Nat)(l:List AtomM)(w:World)(hG:Gl w)(hr:Rd w 3 A l.length (l.flatMap AtomM.cells))(hn:l.length≤9223372036854775807)(hf:∀ x∈l,x.nm.size≤4294967280∧x.ver.size≤4294967280):
  Calls Tryz.prog 36 #[.int .i64 fmt,.slice A l.length c] w fun e w'=>e=.returned (.bool (givesB fmt l))∧Below w.heap.size w w':=by
 have HG:=hid hG;have HR:=hid hr;have HF:=hid hf
 clear hG hr hf
 by_cases h32:32<l.length
 ·have E:=hid (gives_large (fmt:=fmt) h32)
  go_enter Tryz.func36,Tryz.ntmps36
  go_wp2_with fail
  go_ret
  exact⟨ret_bool E.out.symm,bR⟩
 go_enter Tryz.func36,Tryz.ntmps36
 go_wp2_with fail
 go_loopw [12] (fun i wr=>∃ k:Nat,k≤l.length∧i=.int .i64 k∧Hid (Below w.heap.size w wr)∧Hid (∀ (j:Nat) x,j<k→l[j]?=some x→giveB fmt x=true)) (fun i _=>l.length-(intOf i).toNat)
 case atStart=>exact⟨0,z0,rfl,bR,fun j x h=>absurd h (Nat.not_lt_zero _)⟩
 case round=>
  obtain⟨k,hk,rfl,HB,HA⟩:=hrel
  by_cases hlt:k<l.length
  ·obtain⟨x,hx⟩:∃ x,l[k]?=some x:=⟨_,gG hlt⟩
   obtain⟨b,off,hA,he⟩:=(HR.out.below HB.out).elem atom_len k x hx
   have e0:=he 0 _ rfl
   have e1:=he 1 _ rfl
   have e2:=he 2 _ rfl
   simp only[Nat.add_zero] at e0
   have hix:=fun W=>idx_of (T:=23) (E:=48) (sz:=3) (c:=c) Tryz.underlying23 rfl Tryz.sizeOf48 hA hlt W
   obtain⟨z1,z2⟩:=HF.out x (gM hx)
   have BAD:=hid (fun h=>gives_bad (fmt:=fmt) (gM hx) h)
   have GOOD:Hid (giveB fmt x=true→∀ (j:Nat) y,j<k+1→l[j]?=some y→giveB fmt y=true):=by
    intro h j y hj hy
    by_cases e:j=k
    ·subst e;rw[hx] at hy;injection hy with hy;rw[←hy];exact h
    ·exact HA.out j y (by omega) hy
   clear hx he hA
   have hN:=fun W=>model_nameRight fmt x.nm W (by omega)
   have B1:Hid (Below w.heap.size w (wr.alloc (.cells #[.string x.nm,.int .i64 x.op,.string x.ver] 48))):=HB.out.alloc HB.out.size _
   cases hnm:nameF fmt (bl x.nm) with
   | false=>
    have E:=hid (BAD.out (by unfold giveB;rw[hnm];rfl))
    rw[hnm] at hN
    clear hnm
    go_wp2_with fail
    refine(hN _).mono ?_;rintro e w' ⟨rfl,rfl⟩
    go_wp2_with fail
    go_ret
    exact⟨ret_bool E.out.symm,B1.out⟩
   | true=>
    rw[hnm] at hN
    have GB:Hid (giveB fmt x=if x.op=0 then decide (x.ver.size=0) else decide (x.op=3)&&decide (verE fmt x.ver=0)):=by show _=_;unfold giveB;rw[hnm];rfl
    clear hnm
    by_cases o0:x.op=0
    ·have q0:(x.op==0)=true:=by simpa using o0
     by_cases hv:x.ver.size=0
     ·have hv1:x.ver.toList=[]:=by rw[bl_toList,bl_nil _ hv]
      have hv2:x.ver.toList.isEmpty=true:=by rw[hv1];rfl
      have G:=hid (GOOD.out (by rw[GB.out,if_pos o0,dT hv]))
      clear o0 hv
      go_wp2_with fail
      refine(hN _).mono ?_;rintro e w' ⟨rfl,rfl⟩
      go_wp2_with fail
      go_roundw
      case rel=>exact⟨k+1,by omega,by go_num,B1,G⟩
      case measure=>simp[intOf];omega
     ·have hv2:x.ver.toList.isEmpty=false:=by rw[bl_toList,bl_isEmpty];exact dF hv
      have hv1:¬ x.ver.toList=[]:=by intro h;rw[h] at hv2;simp at hv2
      have E:=hid (BAD.out (by rw[GB.out,if_pos o0,dF hv]))
      clear o0 hv
      go_wp2_with fail
      refine(hN _).mono ?_;rintro e w' ⟨rfl,rfl⟩
      go_wp2_with fail
      go_ret
      exact⟨ret_bool E.out.symm,B1.out⟩
    have q0:(x.op==0)=false:=by simpa using o0
    by_cases o3:x.op=3
    ·have q3:(x.op==3)=true:=by simpa using o3
     by_cases hv:verE fmt x.ver=0
     ·have hv2:(verE fmt x.ver != 0)=false:=by simp[hv]
      have G:=hid (GOOD.out (by rw[GB.out,if_neg o0,dT o3,dT hv];rfl))
      clear o0 o3 hv
      go_wp2_with fail
      refine(hN _).mono ?_;rintro e w' ⟨rfl,rfl⟩
      go_wp2_with fail
      refine(version_Check_any fmt x.ver _ (HG.out.below B1.out) (by omega)).mono ?_;rintro e w1 ⟨rfl,hb1⟩
      have B2:Hid (Below w.heap.size w w1):=bthen B1.out hb1
      clear hb1
      go_wp2_with fail
      go_roundw
      case rel=>exact⟨k+1,by omega,by go_num,B2,G⟩
      case measure=>simp[intOf];omega
     ·have hv2:(verE fmt x.ver != 0)=true:=by simp[hv]
      have E:=hid (BAD.out (by rw[GB.out,if_neg o0,dT o3,dF hv];rfl))
      clear o0 o3 hv
      go_wp2_with fail
      refine(hN _).mono ?_;rintro e w' ⟨rfl,rfl⟩
      go_wp2_with fail
      refine(version_Check_any fmt x.ver _ (HG.out.below B1.out) (by omega)).mono ?_;rintro e w1 ⟨rfl,hb1⟩
      have B2:Hid (Below w.heap.size w w1):=bthen B1.out hb1
      clear hb1
      go_wp2_with fail
      go_ret
      exact⟨ret_bool E.out.symm,B2.out⟩
    ·have q3:(x.op==3)=false:=by simpa using o3
     have E:=hid (BAD.out (by rw[GB.out,if_neg o0,dF o3];rfl))
     clear o0 o3
     go_wp2_with fail
     refine(hN _).mono ?_;rintro e w' ⟨rfl,rfl⟩
     go_wp2_with fail
     go_ret
     exact⟨ret_bool E.out.symm,B1.out⟩
  ·have E:=hid (gives_good (fmt:=fmt) h32 (fun j x hj=>HA.out j x (by have:=(gS hj).1;omega) hj))
   go_wp2_with fail
   go_ret
   exact⟨ret_bool E.out.symm,HB.out⟩
end
end Go.Proofs.YtdfdllbebfoggaaGreatDoor
