/- A part of the proof that ModelChecks holds. No condition. -/
import Derived.Test.YtdfdllbebfoggaaGreatDoorD21
set_option maxRecDepth 100000
set_option maxHeartbeats 20000000
set_option linter.unusedVariables false
set_option linter.unusedSimpArgs false
namespace Go.Proofs.YtdfdllbebfoggaaGreatDoor
section
open Go.RowKit
def mkB (l:LU):BA:=⟨l.toArray⟩
theorem bl_of (l:LU):bl (mkB l)=l:=bl_mk l
theorem mk_bl (s:BA):mkB (bl s)=s:=bl_inj (bl_mk _)
theorem mk_size (l:LU):(mkB l).size=l.length:=by rw[←bl_length,bl_of]
theorem eq_mk {s:BA}{l:LU}(h:bl s=l):s=mkB l:=by rw[←h,mk_bl]
structure Wnt where
 no:Bool
 name:LU
 op:Nat
 ver:LU
def Wnt.cells (x:Wnt):List Value:=[.bool x.no,.string (mkB x.name),.int .i64 x.op,.string (mkB x.ver)]
theorem wnt_len (x:Wnt):x.cells.length=4:=rfl
def blankB (c:UInt8):Bool:=c==32
def inkB (c:UInt8):Bool:=c != 32
def relC (c:UInt8):Bool:=c==60||c==61||c==62||c==126
def nrelC (c:UInt8):Bool:=!relC c
def aOp:LU→Nat×LU
 | []=>(0,[])
 | a::r=>if a==60 then (if head0 61 r then (2,r.drop 1) else (1,r)) else if a==61 then (3,r) else if a==62 then (if head0 61 r then (4,r.drop 1) else (5,r)) else if a==126 then (6,r) else (0,a::r)
def aBare (l:LU):LU:=if head0 33 l then l.drop 1 else l
def aRest (no:Bool)(name t:LU):Option Wnt:=
 if t.isEmpty then some ⟨no,name,0,[]⟩ else if verE 3 (mkB (aOp t).2)=0 then some ⟨no,name,(aOp t).1,(aOp t).2⟩ else none
def aWant (l:LU):Option Wnt:=
 if anameB ((aBare l).take (runN nrelC (aBare l))) then aRest (head0 33 l) ((aBare l).take (runN nrelC (aBare l))) ((aBare l).drop (runN nrelC (aBare l))) else none
def aList:Nat→Nat→LU→Option (List Wnt)
 | 0,_,_=>none
 | f+1,n,l=>
  let r:=l.drop (runN blankB l)
  if r.isEmpty then some [] else if n=64 then none else
  match aWant (r.take (runN inkB r)) with
  | none=>none
  | some x=>(aList f (n+1) (r.drop (runN inkB r))).map (x :: ·)
def aParse (l:LU):Option (List Wnt):=aList (l.length+1) 0 l
def Wnt.right (x:Wnt):Prop:=anameB x.name=true∧x.op≤6∧(x.op=0→x.ver=[])∧(0<x.op→verE 3 (mkB x.ver)=0)
theorem aOp_le (l:LU):(aOp l).1≤6:=by
 unfold aOp;split
 ·simp
 ·repeat' split
  all_goals simp
def rel0:LU→Bool
 | []=>false
 | a::_=>relC a
theorem aOp_pos (l:LU)(h:rel0 l=true):0<(aOp l).1:=by
 cases l with
 | nil=>simp[rel0] at h
 | cons a r=>
  unfold aOp
  simp only[rel0,relC,Bool.or_eq_true] at h
  repeat' split
  all_goals first | (simp;done) | (rcases h with((h | h) | h) | h<;>simp_all)
theorem drop_runN_head {p:UInt8→Bool}(l:LU)(h:(l.drop (runN p l)).isEmpty=false):∃ a r,l.drop (runN p l)=a::r∧p a=false:=by
 refine runN_head l ?_
 have h1:=runN_le p l
 rcases Nat.lt_or_ge (runN p l) l.length with h2 | h2
 ·exact h2
 ·rw[List.drop_eq_nil_of_le h2] at h;simp at h
theorem aWant_right {l:LU}{x:Wnt}(h:aWant l=some x):x.right:=by
 unfold aWant at h
 split at h
 ·rename_i hn
  unfold aRest at h
  split at h
  ·injection h with h;subst h;exact⟨hn,by simp,by simp,by simp⟩
  ·rename_i he
   split at h
   ·rename_i hv
    injection h with h;subst h
    refine⟨hn,aOp_le _,fun h0=>?_,fun _=>hv⟩
    exfalso
    obtain⟨a,r,hd,ha⟩:=drop_runN_head _ (Bool.eq_false_iff.2 he)
    have:=aOp_pos _ (show rel0 ((aBare l).drop (runN nrelC (aBare l)))=true by rw[hd];simpa [rel0,nrelC] using ha)
    simp only at h0;omega
   ·cases h
 ·cases h
theorem aList_right:∀ (f n:Nat)(l:LU)(L:List Wnt),n≤64→aList f n l=some L→(∀ x∈L,x.right)∧n+L.length≤64
 | 0,n,l,L,_,h=>by simp[aList] at h
 | f+1,n,l,L,hn,h=>by
  unfold aList at h
  simp only at h
  split at h
  ·injection h with h;subst h;simpa using hn
  ·split at h
   ·cases h
   ·rename_i h64
    split at h
    ·cases h
    ·rename_i x hx
     obtain⟨M,hM,rfl⟩:=Option.map_eq_some_iff.1 h
     obtain⟨a,b⟩:=aList_right f (n+1) _ M (by omega) hM
     refine⟨fun y hy=>?_,by simp;omega⟩
     rcases List.mem_cons.1 hy with rfl | hy
     ·exact aWant_right hx
     ·exact a y hy
theorem runN_cons_yes {p:UInt8→Bool}{a:UInt8}{r:LU}(h:p a=true):runN p (a::r)=runN p r+1:=by simp[runN,h]
theorem aList_blank (f n:Nat)(r:LU):aList f n (32::r)=aList f n r:=by
 cases f with
 | zero=>rfl
 | succ f=>unfold aList;rw[runN_cons_yes (by rfl)];rfl
theorem aList_nil (f n:Nat):aList (f+1) n []=some []:=by simp[aList,runN]
def aStep (f n:Nat)(l:LU):Option (List Wnt):=
 if n=64 then none else match aWant (l.take (runN inkB l)) with
  | none=>none
  | some x=>(aList f (n+1) (l.drop (runN inkB l))).map (x :: ·)
theorem aList_word (f n:Nat)(l:LU)(h:inkB (l.headD 32)=true):aList (f+1) n l=aStep f n l:=by
 cases l with
 | nil=>simp[inkB] at h
 | cons a r=>
  have hb:blankB a=false:=by simpa [inkB,blankB] using h
  unfold aList aStep
  rw[runN_cons_no hb]
  simp
theorem aList_large {f:Nat}{l:LU}(h:inkB (l.headD 32)=true):aList (f+1) 64 l=none:=by rw[aList_word f 64 l h];simp[aStep]
theorem aList_none {f n:Nat}{l:LU}(h:inkB (l.headD 32)=true)(hw:aWant (l.take (runN inkB l))=none):aList (f+1) n l=none:=by
 rw[aList_word f n l h];unfold aStep;rw[hw];simp
theorem aList_some {f n:Nat}{l:LU}{x:Wnt}(h:inkB (l.headD 32)=true)(hn:n≠64)(hw:aWant (l.take (runN inkB l))=some x):aList (f+1) n l=(aList f (n+1) (l.drop (runN inkB l))).map (x :: ·):=by
 rw[aList_word f n l h];unfold aStep;rw[if_neg hn,hw]
def aTop (f:Nat)(acc:List Wnt)(l:LU):Option (List Wnt):=(aList f acc.length l).map (acc++·)
theorem aTop_start (l:LU):aParse l=aTop (l.length+1) [] l:=by unfold aParse aTop;simp
theorem aTop_blank (f:Nat)(acc:List Wnt)(r:LU):aTop f acc (32::r)=aTop f acc r:=by unfold aTop;rw[aList_blank]
theorem aTop_end (f:Nat)(acc:List Wnt):aTop (f+1) acc []=some acc:=by unfold aTop;rw[aList_nil];simp
theorem aTop_none {f:Nat}{acc:List Wnt}{l:LU}(h:inkB (l.headD 32)=true)(hw:aWant (l.take (runN inkB l))=none):aTop (f+1) acc l=none:=by unfold aTop;rw[aList_none h hw];rfl
theorem aTop_large {f:Nat}{acc:List Wnt}{l:LU}(h:inkB (l.headD 32)=true)(hn:acc.length=64):aTop (f+1) acc l=none:=by unfold aTop;rw[hn,aList_large h];rfl
theorem aTop_some {f:Nat}{acc:List Wnt}{l:LU}{x:Wnt}(h:inkB (l.headD 32)=true)(hn:acc.length≠64)(hw:aWant (l.take (runN inkB l))=some x):aTop (f+1) acc l=aTop f (acc++[x]) (l.drop (runN inkB l)):=by
 unfold aTop;rw[aList_some h hn hw];simp[Function.comp_def]
def sgA:Nat→LU
 | 1=>[60]
 | 2=>[60,61]
 | 3=>[61]
 | 4=>[62,61]
 | 5=>[62]
 | 6=>[126]
 | _=>[]
def Wnt.text (x:Wnt):LU:=(if x.no then [33] else [])++(x.name++sgA x.op++x.ver)
def aText (L:List Wnt):LU:=Lib.join (L.map Wnt.text) [32]
def writtenA (l:LU):Bool:=!l.isEmpty&&(match aParse l with | some L=>decide (aText L=l) | none=>false)
def relUp (l:LU):Nat→Nat×LU
 | 0=>(0,l)
 | i+1=>if Lib.hasPrefix l (sgA i)&&decide ((Lib.trimPrefix l (sgA i)).length<(relUp l i).2.length) then (i,Lib.trimPrefix l (sgA i)) else relUp l i
theorem relUp_step (l:LU)(i:Nat):relUp l (i+1)=if Lib.hasPrefix l (sgA i)&&decide ((Lib.trimPrefix l (sgA i)).length<(relUp l i).2.length) then (i,Lib.trimPrefix l (sgA i)) else relUp l i:=rfl
theorem relUp_out {l:LU}{i:Nat}(h:Lib.hasPrefix l (sgA i)=false):relUp l (i+1)=relUp l i:=by rw[relUp_step,h];rfl
theorem relUp_in {l r b:LU}{i n:Nat}(h0:relUp l i=(n,b))(h:Lib.hasPrefix l (sgA i)=true)(ht:l.drop (sgA i).length=r)(hl:r.length<b.length):relUp l (i+1)=(i,r):=by
 have:Lib.trimPrefix l (sgA i)=r:=by unfold Lib.trimPrefix;rw[if_pos h,ht]
 rw[relUp_step,h,this,h0];simp[hl]
theorem relUp_one (l:LU):relUp l 1=(0,l):=by
 rw[relUp_step]
 have:Lib.trimPrefix l (sgA 0)=l:=by unfold Lib.trimPrefix;simp[sgA]
 rw[this];simp[relUp]
theorem pre1 (c a:UInt8)(r:LU):Lib.hasPrefix (a::r) [c]=(c==a):=by unfold Lib.hasPrefix;simp only[List.isPrefixOf,Bool.and_true]
theorem pre2 (c d a:UInt8)(r:LU):Lib.hasPrefix (a::r) [c,d]=(c==a&&head0 d r):=by
 cases r with
 | nil=>unfold Lib.hasPrefix;simp only[List.isPrefixOf,head0]
 | cons b r=>unfold Lib.hasPrefix;simp only[List.isPrefixOf,head0,Bool.and_true];rw[Bool.beq_comm (a:=d)]
theorem beqF {c a:UInt8}(h:a≠c):(c==a)=false:=by simpa using fun e=>h e.symm
theorem relUp_all (l:LU):relUp l 7=aOp l:=by
 cases l with
 | nil=>rfl
 | cons a r=>
  by_cases h0:a=60
  ·subst h0
   have s2:relUp (60::r) 2=(1,r):=relUp_in (relUp_one _) (by rw[show sgA 1=[60] from rfl,pre1];rfl) rfl (by simp)
   have s3:relUp (60::r) 3=if head0 61 r then (2,r.drop 1) else (1,r):=by
    cases hb:head0 61 r with
    | false=>exact(relUp_out (by rw[show sgA 2=[60,61] from rfl,pre2,hb];rfl)).trans s2
    | true=>
     refine relUp_in s2 (by rw[show sgA 2=[60,61] from rfl,pre2,hb];rfl) rfl ?_
     rw[head0_yes hb];simp
   rw[relUp_out (i:=6) (by rw[show sgA 6=[126] from rfl,pre1];rfl),relUp_out (i:=5) (by rw[show sgA 5=[62] from rfl,pre1];rfl),relUp_out (i:=4) (by rw[show sgA 4=[62,61] from rfl,pre2];rfl),relUp_out (i:=3) (by rw[show sgA 3=[61] from rfl,pre1];rfl),s3]
   simp[aOp]
  have n0:=beqF h0
  have s3:relUp (a::r) 3=(0,a::r):=by
   rw[relUp_out (i:=2) (by rw[show sgA 2=[60,61] from rfl,pre2,n0];rfl),relUp_out (i:=1) (by rw[show sgA 1=[60] from rfl,pre1,n0]),relUp_one]
  by_cases h1:a=61
  ·subst h1
   have s4:relUp (61::r) 4=(3,r):=relUp_in s3 (by rw[show sgA 3=[61] from rfl,pre1];rfl) rfl (by simp)
   rw[relUp_out (i:=6) (by rw[show sgA 6=[126] from rfl,pre1];rfl),relUp_out (i:=5) (by rw[show sgA 5=[62] from rfl,pre1];rfl),relUp_out (i:=4) (by rw[show sgA 4=[62,61] from rfl,pre2];rfl),s4]
   simp[aOp]
  have n1:=beqF h1
  have s4:relUp (a::r) 4=(0,a::r):=by rw[relUp_out (i:=3) (by rw[show sgA 3=[61] from rfl,pre1,n1]),s3]
  by_cases h2:a=62
  ·subst h2
   cases hb:head0 61 r with
   | false=>
    have s5:relUp (62::r) 5=(0,62::r):=(relUp_out (by rw[show sgA 4=[62,61] from rfl,pre2,hb];rfl)).trans s4
    have s6:relUp (62::r) 6=(5,r):=relUp_in s5 (by rw[show sgA 5=[62] from rfl,pre1];rfl) rfl (by simp)
    rw[relUp_out (i:=6) (by rw[show sgA 6=[126] from rfl,pre1];rfl),s6]
    simp[aOp,hb]
   | true=>
    have s5:relUp (62::r) 5=(4,r.drop 1):=relUp_in s4 (by rw[show sgA 4=[62,61] from rfl,pre2,hb];rfl) rfl (by simp;omega)
    have s6:relUp (62::r) 6=(4,r.drop 1):=by
     rw[relUp_step,s5]
     have:Lib.trimPrefix (62::r) (sgA 5)=r:=by unfold Lib.trimPrefix;rw[if_pos (by rw[show sgA 5=[62] from rfl,pre1];rfl)];rfl
     rw[this,if_neg (by simp)]
    rw[relUp_out (i:=6) (by rw[show sgA 6=[126] from rfl,pre1];rfl),s6]
    simp[aOp,hb]
  have n2:=beqF h2
  have s6:relUp (a::r) 6=(0,a::r):=by rw[relUp_out (i:=5) (by rw[show sgA 5=[62] from rfl,pre1,n2]),relUp_out (i:=4) (by rw[show sgA 4=[62,61] from rfl,pre2,n2];rfl),s4]
  by_cases h3:a=126
  ·subst h3
   rw[relUp_in (r:=r) s6 (by rw[show sgA 6=[126] from rfl,pre1];rfl) rfl (by simp)]
   simp[aOp]
  ·rw[relUp_out (i:=6) (by rw[show sgA 6=[126] from rfl,pre1,beqF h3]),s6]
   simp[aOp,h0,h1,h2,h3]
theorem r12_Part_apk (s:BA)(w:World)(hs:s.size≤64):
  Calls Tryz.prog 100 #[.int .i64 3,.string s] w (PartPost (splitP (bl s)) w):=by
 go_enter Tryz.func100,Tryz.ntmps100
 have BX0:=hid (Bx.start w [.string ⟨#[]⟩,.string ⟨#[]⟩,.string ⟨#[]⟩,.bool false] 133)
 go_wp2_with fail
 refine(r12_pieces s _ hs).mono ?_
 rintro e w1 ⟨hb1,hm⟩
 have BX:=hid (BX0.out.step hb1)
 clear hb1 BX0
 have c0:=BX.out.cell 0 _ rfl
 have c1:=BX.out.cell 1 _ rfl
 have c2:=BX.out.cell 2 _ rfl
 have c3:=BX.out.cell 3 _ rfl
 have f0:=BX.out.free 0 (by simp)
 have f1:=BX.out.free 1 (by simp)
 have f2:=BX.out.free 2 (by simp)
 have f3:=BX.out.free 3 (by simp)
 cases hr:splitP (bl s) with
 | none=>
  rw[hr] at hm
  subst hm
  have E:=hid hr;clear hr
  go_wp2_with fail
  refine bodyPost_ret (v:=.agg #[.string ⟨#[]⟩,.string ⟨#[]⟩,.string ⟨#[]⟩,.bool false]) (by simp[results,Tryz.results100,go_sem,c0,c1,c2,c3]) rfl ?_
  exact part_no E.out ((((BX.out.bel.setCell lr _).setCell lr _).setCell lr _).setCell lr _)
 | some y=>
  obtain⟨a0,p,q⟩:=y
  rw[hr] at hm
  obtain⟨A,n,c,ps,x,rfl,hl,hrd,hn,hx⟩:=hm
  have h00:a0=[]:=by
   unfold splitP at hr
   obtain⟨z,_,hz⟩:=Option.map_eq_some_iff.1 hr
   injection hz with hz _;exact hz.symm
  subst h00
  have E:=hid hr;clear hr
  have hrd2:Rd w1 3 A (ps++[x]).length ((ps++[x]).flatMap RPc.cells):=by rw[List.length_append,hl];exact hrd
  obtain⟨b1,off1,hA1,he1⟩:=hrd2.elem rpc_len n x (by simp[←hl])
  have p0:=he1 0 _ rfl
  have p2:=he1 2 _ rfl
  simp only[Nat.add_zero] at p0
  have hix:=fun W=>idx_of (T:=185) (E:=188) (sz:=3) (c:=c) Tryz.underlying185 rfl Tryz.sizeOf188 hA1 (show n<n+1 by omega) W
  have iw:IntKind.i64.wrap (n:Int)=(n:Int):=IntWalk.i64_in _ (by omega)
  have t0:(((n:Int)+1)==0)=false:=by simp;omega
  clear hrd hrd2 he1 hA1
  rcases hx with⟨hk,ht,hp,hz⟩ | ⟨hk,hq,hp⟩
  ·have HT:=hid ht;have HP:=hid hp
   have k2:(x.kind==2)=true:=by rw[hk];rfl
   have iw2:IntKind.i64.wrap ((s.size:Int)-(x.text.size:Int))=(s.size:Int)-(x.text.size:Int):=IntWalk.i64_in _ (by omega)
   have iw3:IntKind.i64.wrap ((s.size:Int)-(x.text.size:Int)-2)=(s.size:Int)-(x.text.size:Int)-2:=IntWalk.i64_in _ (by omega)
   have g1:(0:Int)≤(s.size:Int)-(x.text.size:Int)-2:=by omega
   have g2:(s.size:Int)-(x.text.size:Int)-2≤(s.size:Int):=by omega
   have tn:((s.size:Int)-(x.text.size:Int)-2).toNat=s.size-x.text.size-2:=by omega
   clear ht hp
   go_wp2_with fail
   refine bodyPost_ret (v:=.agg #[.string ⟨#[]⟩,.string (s.extract 0 (s.size-x.text.size-2)),.string x.text,.bool true]) (by simp[results,Tryz.results100,go_sem,c0,c1,c2,c3]) rfl ?_
   exact part_yes (by rw[E.out,←HT.out,HP.out,bl_take];rfl) ((((BX.out.bel.setCell lr _).setCell lr _).setCell lr _).setCell lr _)
  ·subst hq hp
   have k2:(x.kind==2)=false:=by simp[hk]
   go_wp2_with fail
   refine bodyPost_ret (v:=.agg #[.string ⟨#[]⟩,.string s,.string ⟨#[]⟩,.bool true]) (by simp[results,Tryz.results100,go_sem,c0,c1,c2,c3]) rfl ?_
   exact part_yes (by rw[E.out];rfl) ((((BX.out.bel.setCell lr _).setCell lr _).setCell lr _).setCell lr _)
theorem r12_Part_any (fmt:Int)(hf:fmt=1∨fmt=2∨fmt=3)(s:BA)(w:World)(hs:s.size≤64):
  Calls Tryz.prog 100 #[.int .i64 fmt,.string s] w (PartPost (splitF fmt (bl s)) w):=by
 rcases hf with rfl | rfl | rfl
 ·exact r12_Part_dr 1 (.inl rfl) s w hs
 ·exact r12_Part_dr 2 (.inr rfl) s w hs
 ·exact r12_Part_apk s w hs
theorem field_ok (a b c:BA)(o:Bool)(w:World):(Instr.field 133 (.agg #[.string a,.string b,.string c,.bool o]) 3).run Tryz.prog w=.ok (.bool o) w:=by kernel_rfl
theorem r12_Check (fmt:Int)(s:BA)(w:World)(hs:s.size≤9223372036854775807):
  Calls Tryz.prog 70 #[.int .i64 fmt,.string s] w fun e w'=>e=.returned (.int .i64 (verE fmt s))∧Below w.heap.size w w':=by
 by_cases hf:fmt=1∨fmt=2∨fmt=3
 ·have q1:decide (fmt<1)=false:=dF (by omega)
  have q2:decide (3<fmt)=false:=dF (by omega)
  by_cases h64:64<s.size
  ·have E:Hid (verE fmt s=4):=by show _=_;unfold verE;rw[if_neg (fun hn=>hn hf),if_pos h64]
   clear hf
   go_enter Tryz.func70,Tryz.ntmps70
   go_wp2_with fail
   go_ret
   exact⟨by rw[E.out];rfl,bR⟩
  ·have E:Hid (verE fmt s=verCode (splitF fmt (bl s))):=by show _=_;unfold verE;rw[if_neg (fun hn=>hn hf),if_neg h64]
   have HF:=hid hf
   clear hf
   go_enter Tryz.func70,Tryz.ntmps70
   go_wp2_with fail
   refine(r12_Part_any fmt HF.out s _ (by omega)).mono ?_
   rintro e w1 ⟨ep,pr,rv,ok,rfl,hr,hb1⟩
   have hfd:=fun W=>field_ok ep pr rv ok W
   cases ok with
   | true=>
    have EV:Hid (verE fmt s=0):=by
     show _=_
     rw[E.out]
     cases h:splitF fmt (bl s) with
     | none=>rw[h] at hr;cases hr
     | some x=>rfl
    clear hr
    go_wp2_with fail
    go_ret
    exact⟨by rw[EV.out];rfl,hb1⟩
   | false=>
    have EV:Hid (verE fmt s=3):=by
     show _=_
     rw[E.out]
     cases h:splitF fmt (bl s) with
     | none=>rfl
     | some x=>obtain⟨a,b,d⟩:=x;rw[h] at hr;cases hr.1
    clear hr
    go_wp2_with fail
    go_ret
    exact⟨by rw[EV.out];rfl,hb1⟩
 ·have E:Hid (verE fmt s=9):=by show _=_;unfold verE;rw[if_pos hf]
  by_cases h1:fmt<1
  ·clear hf
   go_enter Tryz.func70,Tryz.ntmps70
   go_wp2_with fail
   go_ret
   exact⟨by rw[E.out];rfl,bR⟩
  ·have h3:3<fmt:=by omega
   clear hf
   go_enter Tryz.func70,Tryz.ntmps70
   go_wp2_with fail
   go_ret
   exact⟨by rw[E.out];rfl,bR⟩
end
end Go.Proofs.YtdfdllbebfoggaaGreatDoor
