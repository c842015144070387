/- A part of the proof that ModelPackages holds. No condition. -/
import Derived.Test.YtdfdllbebfoggaaGreatDoorC23
set_option maxRecDepth 100000
set_option maxHeartbeats 20000000
set_option linter.unusedVariables false
set_option linter.unusedSimpArgs false
namespace Go.Proofs.YtdfdllbebfoggaaGreatDoor
section
open Go.RowKit
structure Trm where
 name:List UInt8
 qual:List UInt8
 op:Nat
 ver:List UInt8
 archs:List (List UInt8)
def endV (c:UInt8):Bool:=c==32||c==44||c==124||c==40||c==41||c==91||c==93
def endN (c:UInt8):Bool:=endV c||c==58
def endW (c:UInt8):Bool:=endN c||c==33
def nendV (c:UInt8):Bool:=!endV c
def nendN (c:UInt8):Bool:=!endN c
def nendW (c:UInt8):Bool:=!endW c
def skipL (l:List UInt8):List UInt8:=l.drop (runN blankB l)
def tok (p:UInt8→Bool)(l:List UInt8):Option (List UInt8×List UInt8):=if runN p l=0 then none else some (l.take (runN p l),l.drop (runN p l))
def dOp (l:List UInt8):Nat×List UInt8:=
 if head0 61 l then (3,l.drop 1) else
 if head0 60 l then (if head0 60 (l.drop 1) then (1,(l.drop 1).drop 1) else if head0 61 (l.drop 1) then (2,(l.drop 1).drop 1) else (0,l.drop 1)) else
 if head0 62 l then (if head0 62 (l.drop 1) then (5,(l.drop 1).drop 1) else if head0 61 (l.drop 1) then (4,(l.drop 1).drop 1) else (0,l.drop 1)) else (0,l)
def dRelE (op:Nat)(v r:List UInt8):Option (Nat×List UInt8×List UInt8):=if head0 41 (skipL r) then some (op,v,skipL ((skipL r).drop 1)) else none
def dRelV (op:Nat)(l:List UInt8):Option (Nat×List UInt8×List UInt8):=if op=0 then none else match tok nendV (skipL l) with
 | none=>none
 | some (v,r)=>dRelE op v r
def dRel (l:List UInt8):Option (Nat×List UInt8×List UInt8):=dRelV (dOp (skipL l)).1 (dOp (skipL l)).2
def markL (l:List UInt8):List UInt8:=if head0 33 l then [33] else []
def dArch1 (l:List UInt8):Option (List UInt8×List UInt8):=(tok nendW (aBare l)).map (fun x=>(markL l++x.1,x.2))
def dArchs:Nat→List UInt8→Option (List (List UInt8)×List UInt8)
 | 0,_=>none
 | f+1,l=>match dArch1 l with
  | none=>none
  | some (a,r)=>if head0 93 (skipL r) then some ([a],skipL ((skipL r).drop 1)) else if head0 32 r then (dArchs f (skipL r)).map (fun x=>(a::x.1,x.2)) else none
def dQual (r:List UInt8):Option (List UInt8×List UInt8):=if head0 58 r then tok nendW (r.drop 1) else some ([],r)
def dRelO (r:List UInt8):Option (Nat×List UInt8×List UInt8):=if head0 40 r then dRel (r.drop 1) else some (0,[],r)
def dArchO (r:List UInt8):Option (List (List UInt8)×List UInt8):=if head0 91 r then dArchs (r.length+1) (skipL (r.drop 1)) else some ([],r)
def dTerm (l:List UInt8):Option (Trm×List UInt8):=match tok nendN l with
 | none=>none
 | some (nm,r)=>match dQual r with
  | none=>none
  | some (q,r1)=>match dRelO (skipL r1) with
   | none=>none
   | some (op,v,r2)=>match dArchO r2 with
    | none=>none
    | some (ar,r3)=>some (⟨nm,q,op,v,ar⟩,r3)
def dGroup:Nat→List UInt8→Option (List Trm×List UInt8)
 | 0,_=>none
 | f+1,l=>match dTerm l with
  | none=>none
  | some (t,r)=>if head0 124 r then (dGroup f (skipL (r.drop 1))).map (fun x=>(t::x.1,x.2)) else some ([t],r)
def dGroups:Nat→List UInt8→Option (List (List Trm))
 | 0,_=>none
 | f+1,l=>match dGroup (l.length+1) l with
  | none=>none
  | some (g,r)=>if r.isEmpty then some [g] else if head0 44 r then (dGroups f (skipL (r.drop 1))).map (g :: ·) else none
def dForm (l:List UInt8):Option (List (List Trm)):=if (skipL l).isEmpty then some [] else dGroups (l.length+1) (skipL l)
def Trm.right (t:Trm):Bool:=dnameB t.name&&(t.qual.isEmpty||dwordB t.qual)&&t.archs.all (fun a=>dwordB (aBare a))&&(decide (t.op=0)||decide (verE 1 (mkB t.ver)=0))
def dAll (L:List (List Trm)):Bool:=L.all (fun g=>g.all Trm.right)&&decide ((L.map List.length).sum≤64)
def dParse (l:List UInt8):Option (List (List Trm)):=match dForm l with
 | none=>none
 | some L=>if dAll L then some L else none
theorem skipL_le (l:List UInt8):(skipL l).length≤l.length:=by unfold skipL;rw[List.length_drop];omega
theorem tok_some {p:UInt8→Bool}{l a r:List UInt8}(h:tok p l=some (a,r)):0<runN p l∧a=l.take (runN p l)∧r=l.drop (runN p l):=by
 unfold tok at h
 split at h
 ·cases h
 ·injection h with h;injection h with h1 h2;exact⟨by omega,h1.symm,h2.symm⟩
theorem tok_lt {p:UInt8→Bool}{l a r:List UInt8}(h:tok p l=some (a,r)):r.length<l.length:=by
 obtain⟨h1,_,rfl⟩:=tok_some h
 have:=runN_le p l
 rw[List.length_drop];omega
def sgD:Nat→List UInt8
 | 1=>[60,60]
 | 2=>[60,61]
 | 3=>[61]
 | 4=>[62,61]
 | 5=>[62,62]
 | _=>[]
def Trm.text (t:Trm):List UInt8:=t.name++(if t.qual.isEmpty then [] else 58::t.qual)++(if t.op=0 then [] else [32,40]++sgD t.op++[32]++t.ver++[41])++(if t.archs.isEmpty then [] else [32,91]++Lib.join t.archs [32]++[93])
def dText (L:List (List Trm)):List UInt8:=Lib.join (L.map (fun g=>Lib.join (g.map Trm.text) [32,124,32])) [44,32]
def writtenD (l:List UInt8):Bool:=!l.isEmpty&&(match dParse l with | some L=>decide (dText L=l) | none=>false)
end
section
open Go.RowKit
def nameC (c:UInt8):Bool:=inkB c&&nrelC c
def ink0:List UInt8→Bool
 | []=>false
 | c::_=>inkB c
theorem take_runN (p:UInt8→Bool):∀ l:List UInt8,l.take (runN p l)=l.takeWhile p
 | []=>rfl
 | a::r=>by
  cases h:p a with
  | false=>simp[runN,h]
  | true=>rw[runN_cons_yes h,List.take_succ_cons,take_runN p r,List.takeWhile_cons,if_pos h]
theorem drop_runN (p:UInt8→Bool):∀ l:List UInt8,l.drop (runN p l)=l.dropWhile p
 | []=>rfl
 | a::r=>by
  cases h:p a with
  | false=>simp[runN,h]
  | true=>rw[runN_cons_yes h,List.drop_succ_cons,drop_runN p r,List.dropWhile_cons,if_pos h]
theorem tw_head0 (c:UInt8)(hc:inkB c=true)(l:List UInt8):head0 c (l.takeWhile inkB)=head0 c l:=by
 cases l with
 | nil=>rfl
 | cons a r=>
  cases h:inkB a with
  | true=>simp[List.takeWhile_cons,h,head0]
  | false=>
   have:(a==c)=false:=by rw[beq_eq_false_iff_ne];intro e;rw[e,hc] at h;cases h
   simp[List.takeWhile_cons,h,head0,this]
theorem tw_bare (l:List UInt8):aBare (l.takeWhile inkB)=(aBare l).takeWhile inkB:=by
 unfold aBare
 rw[tw_head0 33 rfl]
 cases h:head0 33 l with
 | false=>rfl
 | true=>
  rw[head0_yes h]
  simp[List.takeWhile_cons,show inkB 33=true from rfl]
theorem dw_bare (l:List UInt8):(aBare l).dropWhile inkB=l.dropWhile inkB:=by
 unfold aBare
 cases h:head0 33 l with
 | false=>rfl
 | true=>
  rw[if_pos rfl]
  conv=>rhs;rw[head0_yes h]
  rw[List.dropWhile_cons,if_pos (show inkB 33=true from rfl)]
theorem tw_name:∀ l:List UInt8,runN nrelC (l.takeWhile inkB)=runN nameC l∧(l.takeWhile inkB).take (runN nameC l)=l.take (runN nameC l)∧(l.takeWhile inkB).drop (runN nameC l)=(l.drop (runN nameC l)).takeWhile inkB∧(l.drop (runN nameC l)).dropWhile inkB=l.dropWhile inkB
 | []=>⟨rfl,rfl,rfl,rfl⟩
 | a::r=>by
  obtain⟨h1,h2,h3,h4⟩:=tw_name r
  cases hi:inkB a with
  | false=>
   have hn:runN nameC (a::r)=0:=runN_cons_no (by simp[nameC,hi])
   rw[hn];simp[List.takeWhile_cons,hi,runN]
  | true=>
   cases hr:nrelC a with
   | false=>
    have hn:runN nameC (a::r)=0:=runN_cons_no (by simp[nameC,hr])
    rw[hn];simp[List.takeWhile_cons,hi,runN,hr]
   | true=>
    have hn:runN nameC (a::r)=runN nameC r+1:=runN_cons_yes (by simp[nameC,hi,hr])
    rw[hn,List.takeWhile_cons,if_pos hi,runN_cons_yes hr,h1]
    refine⟨rfl,?_,?_,?_⟩
    ·rw[List.take_succ_cons,List.take_succ_cons,h2]
    ·rw[List.drop_succ_cons,List.drop_succ_cons,h3]
    ·rw[List.drop_succ_cons,List.dropWhile_cons,if_pos hi,h4]
theorem name_stop (l:List UInt8)(h:ink0 (l.drop (runN nameC l))=true):rel0 (l.drop (runN nameC l))=true:=by
 have hl:runN nameC l<l.length:=by
  rcases Nat.lt_or_ge (runN nameC l) l.length with h2 | h2
  ·exact h2
  ·rw[List.drop_eq_nil_of_le h2] at h;simp[ink0] at h
 obtain⟨a,r,hd,ha⟩:=runN_head l hl
 rw[hd] at h ⊢
 simp only[ink0] at h
 simp only[nameC,h,Bool.true_and,nrelC] at ha
 simpa [rel0] using ha
theorem rel_ink {a:UInt8}(h:relC a=true):inkB a=true:=by
 have:=of_bytes (fun a=>!relC a||inkB a) (by kernel_rfl) a
 simpa [h] using this
theorem tw_op (l:List UInt8)(h:rel0 l=true):aOp (l.takeWhile inkB)=((aOp l).1,(aOp l).2.takeWhile inkB)∧(aOp l).2.dropWhile inkB=l.dropWhile inkB:=by
 cases l with
 | nil=>simp[rel0] at h
 | cons a r=>
  have hr:relC a=true:=h
  have hi:=rel_ink hr
  rw[List.takeWhile_cons,if_pos hi,List.dropWhile_cons,if_pos hi]
  unfold aOp
  dsimp only
  rw[tw_head0 61 rfl]
  have hd:head0 61 r=true→(r.takeWhile inkB).drop 1=(r.drop 1).takeWhile inkB∧(r.drop 1).dropWhile inkB=r.dropWhile inkB:=by
   intro hh
   rw[head0_yes hh]
   simp[List.takeWhile_cons,List.dropWhile_cons,show inkB 61=true from rfl]
  cases hh:head0 61 r with
  | false=>
   simp only[Bool.false_eq_true,if_false]
   repeat' split
   all_goals first | exact⟨rfl,rfl⟩ | skip
   simp only[relC,Bool.or_eq_true] at hr
   simp_all
  | true=>
   obtain⟨h1,h2⟩:=hd hh
   simp only[if_true]
   repeat' split
   all_goals first | exact⟨by rw[h1],h2⟩ | exact⟨rfl,rfl⟩ | skip
   simp only[relC,Bool.or_eq_true] at hr
   simp_all
theorem scan_none (l:List UInt8)(h:anameB ((aBare l).take (runN nameC (aBare l)))=false):aWant (l.take (runN inkB l))=none:=by
 obtain⟨h1,h2,h3,h4⟩:=tw_name (aBare l)
 unfold aWant
 rw[take_runN inkB l,tw_bare,h1,h2,h];rfl
theorem scan_name (l:List UInt8)(h:anameB ((aBare l).take (runN nameC (aBare l)))=true)(h0:ink0 ((aBare l).drop (runN nameC (aBare l)))=false):
  aWant (l.take (runN inkB l))=some ⟨head0 33 l,(aBare l).take (runN nameC (aBare l)),0,[]⟩∧l.drop (runN inkB l)=(aBare l).drop (runN nameC (aBare l)):=by
 obtain⟨h1,h2,h3,h4⟩:=tw_name (aBare l)
 have ht:((aBare l).drop (runN nameC (aBare l))).takeWhile inkB=[]∧((aBare l).drop (runN nameC (aBare l))).dropWhile inkB=(aBare l).drop (runN nameC (aBare l)):=by
  cases hd:(aBare l).drop (runN nameC (aBare l)) with
  | nil=>exact⟨rfl,rfl⟩
  | cons a r=>rw[hd] at h0;simp only[ink0] at h0;simp[List.takeWhile_cons,List.dropWhile_cons,h0]
 constructor
 ·unfold aWant
  rw[take_runN inkB l,tw_bare,tw_head0 33 rfl,h1,h2,h,h3,ht.1];rfl
 ·rw[drop_runN inkB l,←dw_bare,←h4,ht.2]
theorem scan_rel (l:List UInt8)(h:anameB ((aBare l).take (runN nameC (aBare l)))=true)(h0:ink0 ((aBare l).drop (runN nameC (aBare l)))=true)(t:List UInt8)(o:Nat)(hp:aOp ((aBare l).drop (runN nameC (aBare l)))=(o,t)):
  aWant (l.take (runN inkB l))=(if verE 3 (mkB (t.take (runN inkB t)))=0 then some ⟨head0 33 l,(aBare l).take (runN nameC (aBare l)),o,t.take (runN inkB t)⟩ else none)∧l.drop (runN inkB l)=t.drop (runN inkB t):=by
 obtain⟨h1,h2,h3,h4⟩:=tw_name (aBare l)
 obtain⟨g1,g2⟩:=tw_op _ (name_stop _ h0)
 rw[hp] at g1 g2
 simp only at g1 g2
 constructor
 ·unfold aWant
  rw[take_runN inkB l,tw_bare,tw_head0 33 rfl,h1,h2,h,h3,if_pos rfl]
  unfold aRest
  rw[g1,take_runN inkB t]
  have:(((aBare l).drop (runN nameC (aBare l))).takeWhile inkB).isEmpty=false:=by
   cases hd:(aBare l).drop (runN nameC (aBare l)) with
   | nil=>rw[hd] at h0;simp[ink0] at h0
   | cons a r=>rw[hd] at h0;simp only[ink0] at h0;simp[List.takeWhile_cons,h0]
  rw[this];rfl
 ·rw[drop_runN inkB l,←dw_bare,←h4,←g2,drop_runN inkB t]
end
end Go.Proofs.YtdfdllbebfoggaaGreatDoor
