/- A part of the proof that ModelChecks holds. No condition. -/
import Derived.Test.YtdfdllbebfoggaaGreatDoorD22
set_option maxRecDepth 100000
set_option maxHeartbeats 20000000
set_option linter.unusedVariables false
set_option linter.unusedSimpArgs false
namespace Go.Proofs.YtdfdllbebfoggaaGreatDoor
section
open Go.RowKit
theorem verE_size {fmt:Int}{s:BA}(h:verE fmt s=0):s.size≤64:=by
 unfold verE at h
 split at h
 ·simp at h
 ·split at h
  ·simp at h
  ·omega
theorem aname_len {l:LU}(h:anameB l=true):l.length≤64:=by
 rw[anameB_eq] at h;simp at h;omega
theorem Wnt.right.sizes {x:Wnt}(h:x.right):x.name.length≤64∧x.ver.length≤64:=by
 obtain⟨h1,h2,h3,h4⟩:=h
 refine⟨aname_len h1,?_⟩
 by_cases o0:x.op=0
 ·rw[h3 o0];simp
 ·have:=verE_size (h4 (by omega));rw[mk_size] at this;exact this
theorem adep_check (x:Wnt)(hx:x.right)(w:World)(hG:Gl w):
  Calls Tryz.prog 190 #[.agg #[.string (mkB x.name),.int .i64 x.op,.string (mkB x.ver)]] w fun e w'=>e=.returned (.int .i64 0)∧Below w.heap.size w w':=by
 obtain⟨z1,z2⟩:=hx.sizes
 obtain⟨h1,h2,h3,h4⟩:=hx
 have HG:=hid hG;clear hG
 have hn:anameB (bl (mkB x.name))=true:=by rw[bl_of];exact h1
 have s1:(mkB x.name).size≤64:=by rw[mk_size];exact z1
 have s2:(mkB x.ver).size≤64:=by rw[mk_size];exact z2
 have hN:=fun W=>adep_Name (mkB x.name) W (by omega)
 rw[hn] at hN
 clear hn h1 z1 z2
 generalize mkB x.name=N at *
 by_cases o0:x.op=0
 ·have hv:mkB x.ver=⟨#[]⟩:=by rw[h3 o0];rfl
  rw[hv,o0]
  clear h2 h3 h4 s2 hv o0
  go_enter Tryz.func190,Tryz.ntmps190
  go_wp2_with fail
  refine(hN _).mono ?_;rintro e w' ⟨rfl,rfl⟩
  go_wp2_with fail
  go_ret
  exact⟨rfl,bR.alloc lr _⟩
 ·have hv:=h4 (by omega)
  have o1:decide ((x.op:Int)<0)=false:=dF (by omega)
  have o2:decide ((6:Int)<(x.op:Int))=false:=dF (by omega)
  have o3:((x.op:Int)==0)=false:=by simp;omega
  have hC:=fun W hW=>version_Check_any 3 (mkB x.ver) W hW (by omega)
  rw[hv] at hC
  clear h2 h3 h4 hv
  generalize mkB x.ver=V at *
  go_enter Tryz.func190,Tryz.ntmps190
  go_wp2_with fail
  refine(hN _).mono ?_;rintro e w' ⟨rfl,rfl⟩
  go_wp2_with fail
  refine(hC _ (HG.out.alloc _)).mono ?_;rintro e w1 ⟨rfl,hb1⟩
  go_wp2_with fail
  go_ret
  exact⟨rfl,(bR.alloc lr _).trans (hb1.mono (by simp))⟩
theorem adep_Check (A:Option Addr)(c:Nat)(L:List Wnt)(hL:∀ x∈L,x.right)(h64:L.length≤64)(w:World)(hG:Gl w)(hr:Rd w 4 A L.length (L.flatMap Wnt.cells)):
  Calls Tryz.prog 134 #[.slice A L.length c] w fun e w'=>e=.returned (.int .i64 0)∧Below w.heap.size w w':=by
 have HG:=hid hG;have HR:=hid hr;have HL:=hid hL
 clear hG hr hL
 go_enter Tryz.func134,Tryz.ntmps134
 go_wp2_with fail
 go_loopw [11] (fun i wr=>∃ k:Nat,k≤L.length∧i=.int .i64 k∧Hid (Below w.heap.size w wr)) (fun i _=>L.length-(intOf i).toNat)
 case atStart=>exact⟨0,z0,rfl,bR⟩
 case round=>
  obtain⟨k,hk,rfl,HB⟩:=hrel
  by_cases hlt:k<L.length
  ·obtain⟨x,hx⟩:∃ x,L[k]?=some x:=⟨_,gG hlt⟩
   obtain⟨b,off,hA,he⟩:=(HR.out.below HB.out).elem wnt_len k x hx
   have e0:=he 0 _ rfl
   have e1:=he 1 _ rfl
   have e2:=he 2 _ rfl
   have e3:=he 3 _ rfl
   simp only[Nat.add_zero] at e0
   have hix:=fun W=>idx_of (T:=125) (E:=172) (sz:=4) (c:=c) Tryz.underlying125 rfl Tryz.sizeOf172 hA hlt W
   have HX:=hid (HL.out x (gM hx))
   clear hx he hA
   go_wp2_with fail
   have B1:=hid (HB.out.alloc HB.out.size (.cells #[.bool x.no,.string (mkB x.name),.int .i64 x.op,.string (mkB x.ver)] 172))
   refine(adep_check x HX.out _ (HG.out.below B1.out)).mono ?_;rintro e w1 ⟨rfl,hb1⟩
   have B2:Hid (Below w.heap.size w w1):=bthen B1.out hb1
   clear hb1 e0 e1 e2 e3 hix
   go_wp2_with fail
   go_roundw
   case rel=>exact⟨k+1,by omega,by go_num,B2⟩
   case measure=>simp[intOf];omega
  ·go_wp2_with fail
   go_ret
   exact⟨rfl,HB.out⟩
theorem Join_any (A:Option Addr)(c:Nat)(xs:List BA)(sep:BA)(w:World)(hr:Rd w 1 A xs.length (strCells xs))(hc:xs.length≤c)(hn:xs.length≤140737488355328)(hlen:(Lib.join (xs.map bl) (bl sep)).length≤140737488355328):
  Calls Tryz.prog 126 #[.slice A xs.length c,.string sep] w fun e w'=>e=.returned (.string (mkB (Lib.join (xs.map bl) (bl sep))))∧Below w.heap.size w w':=by
 by_cases h0:xs.length=0
 ·have:xs=[]:=List.length_eq_zero_iff.1 h0
  subst this
  exact(Tryz.strings_Join_none A c sep w).mono fun _ _ ⟨he,hw⟩=>⟨he,by rw[hw];exact bR⟩
 ·obtain⟨b,off,rfl,hcell⟩:=hr.2 (by omega)
  have hb:b<w.heap.size:=by
   have h1:=hcell 0 (.string xs[0]) (by simp[strCells])
   exact World.block_lt_of_cell? _ _ h1
  exact(Tryz.strings_Join b off c xs sep w (fun j x hx=>hcell j _ (by simp[strCells,hx])) hb hn hc hlen).mono fun _ _ ⟨he,hw⟩=>⟨he,hw⟩
def nameC (c:UInt8):Bool:=inkB c&&nrelC c
def ink0:LU→Bool
 | []=>false
 | c::_=>inkB c
theorem take_runN (p:UInt8→Bool):∀ l:LU,l.take (runN p l)=l.takeWhile p
 | []=>rfl
 | a::r=>by
  cases h:p a with
  | false=>simp[runN,h]
  | true=>rw[runN_cons_yes h,List.take_succ_cons,take_runN p r,List.takeWhile_cons,if_pos h]
theorem drop_runN (p:UInt8→Bool):∀ l:LU,l.drop (runN p l)=l.dropWhile p
 | []=>rfl
 | a::r=>by
  cases h:p a with
  | false=>simp[runN,h]
  | true=>rw[runN_cons_yes h,List.drop_succ_cons,drop_runN p r,List.dropWhile_cons,if_pos h]
theorem tw_head0 (c:UInt8)(hc:inkB c=true)(l:LU):head0 c (l.takeWhile inkB)=head0 c l:=by
 cases l with
 | nil=>rfl
 | cons a r=>
  cases h:inkB a with
  | true=>simp[List.takeWhile_cons,h,head0]
  | false=>
   have:(a==c)=false:=by rw[bF];intro e;rw[e,hc] at h;cases h
   simp[List.takeWhile_cons,h,head0,this]
theorem tw_bare (l:LU):aBare (l.takeWhile inkB)=(aBare l).takeWhile inkB:=by
 unfold aBare
 rw[tw_head0 33 rfl]
 cases h:head0 33 l with
 | false=>rfl
 | true=>
  rw[head0_yes h]
  simp[List.takeWhile_cons,show inkB 33=true from rfl]
theorem dw_bare (l:LU):(aBare l).dropWhile inkB=l.dropWhile inkB:=by
 unfold aBare
 cases h:head0 33 l with
 | false=>rfl
 | true=>
  rw[if_pos rfl]
  conv=>rhs;rw[head0_yes h]
  rw[List.dropWhile_cons,if_pos (show inkB 33=true from rfl)]
theorem tw_name:∀ l:LU,runN nrelC (l.takeWhile inkB)=runN nameC l∧(l.takeWhile inkB).take (runN nameC l)=l.take (runN nameC l)∧(l.takeWhile inkB).drop (runN nameC l)=(l.drop (runN nameC l)).takeWhile inkB∧(l.drop (runN nameC l)).dropWhile inkB=l.dropWhile inkB
 | []=>⟨rfl,rfl,rfl,rfl⟩
 | a::r=>by
  obtain⟨h1,h2,h3,h4⟩:=tw_name r
  cases hi:inkB a with
  | false=>
   have hn:runN nameC (a::r)=0:=runN_cons_no (by simp[nameC,hi])
   rw[hn];simp[List.takeWhile_cons,hi,runN]
  | true=>
   cases hr:nrelC a with
   | false=>
    have hn:runN nameC (a::r)=0:=runN_cons_no (by simp[nameC,hr])
    rw[hn];simp[List.takeWhile_cons,hi,runN,hr]
   | true=>
    have hn:runN nameC (a::r)=runN nameC r+1:=runN_cons_yes (by simp[nameC,hi,hr])
    rw[hn,List.takeWhile_cons,if_pos hi,runN_cons_yes hr,h1]
    refine⟨rfl,?_,?_,?_⟩
    ·rw[List.take_succ_cons,List.take_succ_cons,h2]
    ·rw[List.drop_succ_cons,List.drop_succ_cons,h3]
    ·rw[List.drop_succ_cons,List.dropWhile_cons,if_pos hi,h4]
theorem name_stop (l:LU)(h:ink0 (l.drop (runN nameC l))=true):rel0 (l.drop (runN nameC l))=true:=by
 have hl:runN nameC l<l.length:=by
  rcases Nat.lt_or_ge (runN nameC l) l.length with h2 | h2
  ·exact h2
  ·rw[List.drop_eq_nil_of_le h2] at h;simp[ink0] at h
 obtain⟨a,r,hd,ha⟩:=runN_head l hl
 rw[hd] at h ⊢
 simp only[ink0] at h
 simp only[nameC,h,Bool.true_and,nrelC] at ha
 simpa [rel0] using ha
theorem rel_ink {a:UInt8}(h:relC a=true):inkB a=true:=by
 have:=of_bytes (fun a=>!relC a||inkB a) (by kernel_rfl) a
 simpa [h] using this
theorem tw_op (l:LU)(h:rel0 l=true):aOp (l.takeWhile inkB)=((aOp l).1,(aOp l).2.takeWhile inkB)∧(aOp l).2.dropWhile inkB=l.dropWhile inkB:=by
 cases l with
 | nil=>simp[rel0] at h
 | cons a r=>
  have hr:relC a=true:=h
  have hi:=rel_ink hr
  rw[List.takeWhile_cons,if_pos hi,List.dropWhile_cons,if_pos hi]
  unfold aOp
  dsimp only
  rw[tw_head0 61 rfl]
  have hd:head0 61 r=true→(r.takeWhile inkB).drop 1=(r.drop 1).takeWhile inkB∧(r.drop 1).dropWhile inkB=r.dropWhile inkB:=by
   intro hh
   rw[head0_yes hh]
   simp[List.takeWhile_cons,List.dropWhile_cons,show inkB 61=true from rfl]
  cases hh:head0 61 r with
  | false=>
   simp only[Bool.false_eq_true,if_false]
   repeat' split
   all_goals first | exact⟨rfl,rfl⟩ | skip
   simp only[relC,Bool.or_eq_true] at hr
   simp_all
  | true=>
   obtain⟨h1,h2⟩:=hd hh
   simp only[if_true]
   repeat' split
   all_goals first | exact⟨by rw[h1],h2⟩ | exact⟨rfl,rfl⟩ | skip
   simp only[relC,Bool.or_eq_true] at hr
   simp_all
theorem scan_none (l:LU)(h:anameB ((aBare l).take (runN nameC (aBare l)))=false):aWant (l.take (runN inkB l))=none:=by
 obtain⟨h1,h2,h3,h4⟩:=tw_name (aBare l)
 unfold aWant
 rw[take_runN inkB l,tw_bare,h1,h2,h];rfl
theorem scan_name (l:LU)(h:anameB ((aBare l).take (runN nameC (aBare l)))=true)(h0:ink0 ((aBare l).drop (runN nameC (aBare l)))=false):
  aWant (l.take (runN inkB l))=some ⟨head0 33 l,(aBare l).take (runN nameC (aBare l)),0,[]⟩∧l.drop (runN inkB l)=(aBare l).drop (runN nameC (aBare l)):=by
 obtain⟨h1,h2,h3,h4⟩:=tw_name (aBare l)
 have ht:((aBare l).drop (runN nameC (aBare l))).takeWhile inkB=[]∧((aBare l).drop (runN nameC (aBare l))).dropWhile inkB=(aBare l).drop (runN nameC (aBare l)):=by
  cases hd:(aBare l).drop (runN nameC (aBare l)) with
  | nil=>exact⟨rfl,rfl⟩
  | cons a r=>rw[hd] at h0;simp only[ink0] at h0;simp[List.takeWhile_cons,List.dropWhile_cons,h0]
 constructor
 ·unfold aWant
  rw[take_runN inkB l,tw_bare,tw_head0 33 rfl,h1,h2,h,h3,ht.1];rfl
 ·rw[drop_runN inkB l,←dw_bare,←h4,ht.2]
theorem scan_rel (l:LU)(h:anameB ((aBare l).take (runN nameC (aBare l)))=true)(h0:ink0 ((aBare l).drop (runN nameC (aBare l)))=true)(t:LU)(o:Nat)(hp:aOp ((aBare l).drop (runN nameC (aBare l)))=(o,t)):
  aWant (l.take (runN inkB l))=(if verE 3 (mkB (t.take (runN inkB t)))=0 then some ⟨head0 33 l,(aBare l).take (runN nameC (aBare l)),o,t.take (runN inkB t)⟩ else none)∧l.drop (runN inkB l)=t.drop (runN inkB t):=by
 obtain⟨h1,h2,h3,h4⟩:=tw_name (aBare l)
 obtain⟨g1,g2⟩:=tw_op _ (name_stop _ h0)
 rw[hp] at g1 g2
 simp only at g1 g2
 constructor
 ·unfold aWant
  rw[take_runN inkB l,tw_bare,tw_head0 33 rfl,h1,h2,h,h3,if_pos rfl]
  unfold aRest
  rw[g1,take_runN inkB t]
  have:(((aBare l).drop (runN nameC (aBare l))).takeWhile inkB).isEmpty=false:=by
   cases hd:(aBare l).drop (runN nameC (aBare l)) with
   | nil=>rw[hd] at h0;simp[ink0] at h0
   | cons a r=>rw[hd] at h0;simp only[ink0] at h0;simp[List.takeWhile_cons,h0]
  rw[this];rfl
 ·rw[drop_runN inkB l,←dw_bare,←h4,←g2,drop_runN inkB t]
end
end Go.Proofs.YtdfdllbebfoggaaGreatDoor
