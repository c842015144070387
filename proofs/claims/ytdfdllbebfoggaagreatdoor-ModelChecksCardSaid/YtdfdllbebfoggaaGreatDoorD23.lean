/- A part of the proof that ModelChecks holds. No condition. -/
import Derived.Test.YtdfdllbebfoggaaGreatDoorD22
set_option maxRecDepth 100000
set_option maxHeartbeats 20000000
set_option linter.unusedVariables false
set_option linter.unusedSimpArgs false
namespace Go.Proofs.YtdfdllbebfoggaaGreatDoor
section
open Go.RowKit
structure Trm where
 name:LU
 qual:LU
 op:Nat
 ver:LU
 archs:List (LU)
def endV (c:UInt8):Bool:=c==32||c==44||c==124||c==40||c==41||c==91||c==93
def endN (c:UInt8):Bool:=endV c||c==58
def endW (c:UInt8):Bool:=endN c||c==33
def nendV (c:UInt8):Bool:=!endV c
def nendN (c:UInt8):Bool:=!endN c
def nendW (c:UInt8):Bool:=!endW c
def skipL (l:LU):LU:=l.drop (runN blankB l)
def tok (p:UInt8→Bool)(l:LU):Option (LU×LU):=if runN p l=0 then none else some (l.take (runN p l),l.drop (runN p l))
def dOp (l:LU):Nat×LU:=
 if head0 61 l then (3,l.drop 1) else
 if head0 60 l then (if head0 60 (l.drop 1) then (1,(l.drop 1).drop 1) else if head0 61 (l.drop 1) then (2,(l.drop 1).drop 1) else (0,l.drop 1)) else
 if head0 62 l then (if head0 62 (l.drop 1) then (5,(l.drop 1).drop 1) else if head0 61 (l.drop 1) then (4,(l.drop 1).drop 1) else (0,l.drop 1)) else (0,l)
def dRelE (op:Nat)(v r:LU):Option (Nat×LU×LU):=if head0 41 (skipL r) then some (op,v,skipL ((skipL r).drop 1)) else none
def dRelV (op:Nat)(l:LU):Option (Nat×LU×LU):=if op=0 then none else match tok nendV (skipL l) with
 | none=>none
 | some (v,r)=>dRelE op v r
def dRel (l:LU):Option (Nat×LU×LU):=dRelV (dOp (skipL l)).1 (dOp (skipL l)).2
def markL (l:LU):LU:=if head0 33 l then [33] else []
def dArch1 (l:LU):Option (LU×LU):=(tok nendW (aBare l)).map (fun x=>(markL l++x.1,x.2))
def dArchs:Nat→LU→Option (List (LU)×LU)
 | 0,_=>none
 | f+1,l=>match dArch1 l with
  | none=>none
  | some (a,r)=>if head0 93 (skipL r) then some ([a],skipL ((skipL r).drop 1)) else if head0 32 r then (dArchs f (skipL r)).map (fun x=>(a::x.1,x.2)) else none
def dQual (r:LU):Option (LU×LU):=if head0 58 r then tok nendW (r.drop 1) else some ([],r)
def dRelO (r:LU):Option (Nat×LU×LU):=if head0 40 r then dRel (r.drop 1) else some (0,[],r)
def dArchO (r:LU):Option (List (LU)×LU):=if head0 91 r then dArchs (r.length+1) (skipL (r.drop 1)) else some ([],r)
def dTerm (l:LU):Option (Trm×LU):=match tok nendN l with
 | none=>none
 | some (nm,r)=>match dQual r with
  | none=>none
  | some (q,r1)=>match dRelO (skipL r1) with
   | none=>none
   | some (op,v,r2)=>match dArchO r2 with
    | none=>none
    | some (ar,r3)=>some (⟨nm,q,op,v,ar⟩,r3)
def dGroup:Nat→LU→Option (List Trm×LU)
 | 0,_=>none
 | f+1,l=>match dTerm l with
  | none=>none
  | some (t,r)=>if head0 124 r then (dGroup f (skipL (r.drop 1))).map (fun x=>(t::x.1,x.2)) else some ([t],r)
def dGroups:Nat→LU→Option (List (List Trm))
 | 0,_=>none
 | f+1,l=>match dGroup (l.length+1) l with
  | none=>none
  | some (g,r)=>if r.isEmpty then some [g] else if head0 44 r then (dGroups f (skipL (r.drop 1))).map (g :: ·) else none
def dForm (l:LU):Option (List (List Trm)):=if (skipL l).isEmpty then some [] else dGroups (l.length+1) (skipL l)
def Trm.right (t:Trm):Bool:=dnameB t.name&&(t.qual.isEmpty||dwordB t.qual)&&t.archs.all (fun a=>dwordB (aBare a))&&(decide (t.op=0)||decide (verE 1 (mkB t.ver)=0))
def dAll (L:List (List Trm)):Bool:=L.all (fun g=>g.all Trm.right)&&decide ((L.map List.length).sum≤64)
def dParse (l:LU):Option (List (List Trm)):=match dForm l with
 | none=>none
 | some L=>if dAll L then some L else none
theorem skipL_le (l:LU):(skipL l).length≤l.length:=by unfold skipL;rw[List.length_drop];omega
theorem tok_some {p:UInt8→Bool}{l a r:LU}(h:tok p l=some (a,r)):0<runN p l∧a=l.take (runN p l)∧r=l.drop (runN p l):=by
 unfold tok at h
 split at h
 ·cases h
 ·injection h with h;injection h with h1 h2;exact⟨by omega,h1.symm,h2.symm⟩
theorem tok_lt {p:UInt8→Bool}{l a r:LU}(h:tok p l=some (a,r)):r.length<l.length:=by
 obtain⟨h1,_,rfl⟩:=tok_some h
 have:=runN_le p l
 rw[List.length_drop];omega
def sgD:Nat→LU
 | 1=>[60,60]
 | 2=>[60,61]
 | 3=>[61]
 | 4=>[62,61]
 | 5=>[62,62]
 | _=>[]
def Trm.text (t:Trm):LU:=t.name++(if t.qual.isEmpty then [] else 58::t.qual)++(if t.op=0 then [] else [32,40]++sgD t.op++[32]++t.ver++[41])++(if t.archs.isEmpty then [] else [32,91]++Lib.join t.archs [32]++[93])
def dText (L:List (List Trm)):LU:=Lib.join (L.map (fun g=>Lib.join (g.map Trm.text) [32,124,32])) [44,32]
def writtenD (l:LU):Bool:=!l.isEmpty&&(match dParse l with | some L=>decide (dText L=l) | none=>false)
theorem CutP (s p:BA)(w:World):Calls Tryz.prog 119 #[.string s,.string p] w fun e w'=>e=.returned (.tuple #[.string (mkB (Lib.trimPrefix (bl s) (bl p))),.bool (Lib.hasPrefix (bl s) (bl p))])∧w=w':=
 (Tryz.strings_CutPrefix s p w).mono fun _ _ ⟨he,hw⟩=>⟨he,hw.symm⟩
theorem idx7 (k:Nat)(hk:k<7)(x:Nat→BA)(w:World):(Instr.index 179 (.agg #[.string (x 0),.string (x 1),.string (x 2),.string (x 3),.string (x 4),.string (x 5),.string (x 6)]) (.int .i64 k)).run Tryz.prog w=.ok (.string (x k)) w:=by
 rcases(by omega:k=0∨k=1∨k=2∨k=3∨k=4∨k=5∨k=6) with rfl | rfl | rfl | rfl | rfl | rfl | rfl<;>kernel_rfl
theorem sgA_at (k:Nat)(hk:k<7):bl (aSign k)=sgA k:=by
 rcases(by omega:k=0∨k=1∨k=2∨k=3∨k=4∨k=5∨k=6) with rfl | rfl | rfl | rfl | rfl | rfl | rfl<;>rfl
theorem relUp_yes {l:LU}{k:Nat}(h1:Lib.hasPrefix l (sgA k)=true)(h2:(mkB (Lib.trimPrefix l (sgA k))).size<(mkB (relUp l k).2).size):relUp l (k+1)=(k,Lib.trimPrefix l (sgA k)):=by
 rw[mk_size,mk_size] at h2
 simp[relUp,h1,h2]
theorem relUp_long {l:LU}{k:Nat}(h2:¬ (mkB (Lib.trimPrefix l (sgA k))).size<(mkB (relUp l k).2).size):relUp l (k+1)=relUp l k:=by
 rw[mk_size,mk_size] at h2
 simp[relUp,h2]
theorem relUp_no {l:LU}{k:Nat}(h1:Lib.hasPrefix l (sgA k)=false):relUp l (k+1)=relUp l k:=by
 simp[relUp,h1]
theorem trim_le (l p:LU):(Lib.trimPrefix l p).length≤l.length:=by
 unfold Lib.trimPrefix;split<;>simp
theorem relUp_le (l:LU):∀ k,(relUp l k).2.length≤l.length
 | 0=>Nat.le_refl _
 | k+1=>by
  unfold relUp;split
  ·exact trim_le _ _
  ·exact relUp_le l k
theorem adep_relation (s:BA)(w:World)(hG:Gl w)(hs:s.size≤9223372036854775807):
  Calls Tryz.prog 188 #[.string s] w fun e w'=>e=.returned (.tuple #[.int .i64 (aOp (bl s)).1,.string (mkB (aOp (bl s)).2)])∧w=w':=by
 have g0:=hG.asg 0 (by omega)
 have g1:=hG.asg 1 (by omega)
 have g2:=hG.asg 2 (by omega)
 have g3:=hG.asg 3 (by omega)
 have g4:=hG.asg 4 (by omega)
 have g5:=hG.asg 5 (by omega)
 have g6:=hG.asg 6 (by omega)
 clear hG
 go_enter Tryz.func188,Tryz.ntmps188
 go_wp2_with fail
 clear g0 g1 g2 g3 g4 g5 g6
 go_loop [4,5,12] (fun o b i=>∃ k:Nat,k≤7∧∃ (n:Nat) (B:BA),o=.int .i64 n∧b=.string B∧i=.int .i64 k∧Hid (relUp (bl s) k=(n,bl B))) (fun _ _ i=>7-(intOf i).toNat)
 case atStart=>exact⟨0,by omega,0,s,rfl,rfl,rfl,rfl⟩
 case round=>
  obtain⟨k,hk,n,B,rfl,rfl,rfl,HR⟩:=hrel
  by_cases hlt:k<7
  ·have hix:=fun W=>idx7 k hlt aSign W
   have hsg:=sgA_at k hlt
   obtain⟨T,hT⟩:∃ T,mkB (Lib.trimPrefix (bl s) (sgA k))=T:=⟨_,rfl⟩
   have hTz:T.size≤s.size:=by rw[←hT,mk_size,←bl_length];exact trim_le _ _
   have hBz:B.size≤s.size:=by rw[←bl_length,←bl_length,show bl B=(relUp (bl s) k).2 by rw[HR.out]];exact relUp_le _ _
   have hbT:bl T=Lib.trimPrefix (bl s) (sgA k):=by rw[←hT,bl_of]
   have hmB:mkB (relUp (bl s) k).2=B:=by rw[HR.out];exact mk_bl B
   cases hp:Lib.hasPrefix (bl s) (sgA k) with
   | false=>
    have HN:=hid ((relUp_no hp).trans HR.out)
    clear hmB hbT
    go_wp2_with (go_at_call 119;refine(CutP _ _ _).mono ?_;rintro e w' ⟨rfl,rfl⟩;rw[hsg,hp,hT])
    go_round
    case rel=>exact⟨k+1,by omega,n,B,rfl,rfl,by go_num,HN⟩
    case measure=>simp[intOf];omega
   | true=>
    by_cases hl:T.size<B.size
    ·have HN:Hid (relUp (bl s) (k+1)=(k,bl T)):=by show _=_;rw[relUp_yes hp (by rw[hT,hmB];exact hl),hbT]
     clear hmB hbT
     go_wp2_with (go_at_call 119;refine(CutP _ _ _).mono ?_;rintro e w' ⟨rfl,rfl⟩;rw[hsg,hp,hT])
     go_round
     case rel=>exact⟨k+1,by omega,k,T,rfl,rfl,by go_num,HN⟩
     case measure=>simp[intOf];omega
    ·have HN:=hid ((relUp_long (by rw[hT,hmB];exact hl)).trans HR.out)
     clear hmB hbT
     go_wp2_with (go_at_call 119;refine(CutP _ _ _).mono ?_;rintro e w' ⟨rfl,rfl⟩;rw[hsg,hp,hT])
     go_round
     case rel=>exact⟨k+1,by omega,n,B,rfl,rfl,by go_num,HN⟩
     case measure=>simp[intOf];omega
  ·have E:Hid (aOp (bl s)=(n,bl B)):=by show _=_;rw[←relUp_all,←HR.out];congr 1;omega
   go_wp2_with fail
   go_ret2
   exact⟨by rw[E.out,mk_bl];rfl,rfl⟩
end
section
open Go.RowKit Go.Deep
theorem info_want:(Tryz.prog.info? 172).map (fun i=>(i.zero,i.size,i.bytes))=some (some (.agg #[.bool false,.string ⟨#[]⟩,.int .i64 0,.string ⟨#[]⟩]),4,48):=by kernel_rfl
structure WRow (w wr:World) (L:List Wnt) (A:Option Addr) (n c:Nat):Prop where
 len:L.length=n
 row:wr.ownsRow (w.heap.size+1) 172 4 (.slice A n c) n (L.flatMap Wnt.cells)
 ret:Blk wr w.heap.size [.string ⟨#[]⟩,.int .i64 0,.int .i64 0]
 bel:Below w.heap.size w wr
theorem WRow.below {w wr w':World}{L:List Wnt}{A:Option Addr}{n c:Nat}(h:WRow w wr L A n c)(hb:Below wr.heap.size wr w'):WRow w w' L A n c:=
 ⟨h.len,owns_below h.row hb,h.ret.below hb,bthen h.bel hb⟩
theorem WRow.start (w:World):WRow w (w.alloc (.cells #[.string ⟨#[]⟩,.int .i64 0,.int .i64 0] 114)) [] none 0 0:=
 ⟨rfl,World.ownsRow_nil _ _ _ _,Blk.new w _ _,bR.alloc lr _⟩
theorem WRow.grow {w wr w2:World}{L:List Wnt}{A A1:Option Addr}{n c c1:Nat}{o1 o2:Obj}{x:Wnt}(h:WRow w wr L A n c)
  (hr:w2.ownsRow (w.heap.size+1) 172 4 (.slice A1 (n+1) c1) (n+1) (L.flatMap Wnt.cells++x.cells))
  (hg:((wr.alloc o1).alloc o2).grownBy w2 (Value.slice A n c).ownBlock):WRow w w2 (L++[x]) A1 (n+1) c1:=by
 have hb:=h.bel.size
 have hB:Below w.heap.size w ((wr.alloc o1).alloc o2):=(h.bel.alloc h.bel.size o1).alloc (by simp;omega) o2
 have hR:Blk ((wr.alloc o1).alloc o2) w.heap.size [.string ⟨#[]⟩,.int .i64 0,.int .i64 0]:=(h.ret.alloc o1).alloc o2
 refine⟨by simp[h.len],by rw[List.flatMap_append];simpa using hr,?_,?_⟩
 ·have hk:w2.heap[w.heap.size]?=((wr.alloc o1).alloc o2).heap[w.heap.size]?:=hg.block _ hR.sz (by intro e;have:=(h.row.lt _ e.symm).1;omega)
  refine⟨Nat.lt_of_lt_of_le hR.sz hg.size,fun j u hu=>?_,fun j hj=>?_⟩
  ·exact(World.cell?_of_block (a:=⟨w.heap.size,j,none⟩) hk).trans (hR.cell j u hu)
  ·exact(World.frozen?_of_block (a:=⟨w.heap.size,j,none⟩) hk).trans (hR.free j hj)
 ·exact hB.grown hg hB.size (fun j hj=>by have:=(h.row.lt j hj).1;omega)
def AParsePost (r:Option (List Wnt))(w:World)(e:Ending)(w':World):Prop:=
 ∃ (A:Option Addr) (n c:Nat) (f:BA) (a code:Int),e=.returned (.tuple #[.slice A n c,fltV f a code])∧Below w.heap.size w w' ∧
  (match r with
   | some L=>code=0∧n=L.length∧w'.ownsRow w.heap.size 172 4 (.slice A n c) n (L.flatMap Wnt.cells)
   | none=>code≠0∧A=none∧n=0)
theorem reads_want (w:World)(t:TypeId)(a b c d:Value):Reads (w.alloc (.cells #[a,b,c,d] t)) (w.heap.size+1) 4 (some ⟨w.heap.size,0,none⟩) 1 [a,b,c,d]:=by
 refine⟨rfl,fun _=>⟨_,rfl,by simp,fun j u hu=>?_⟩⟩
 match j,hu with
 | 0,hu=>simp at hu;subst hu;simp[Addr.add]
 | 1,hu=>simp at hu;subst hu;simp[Addr.add]
 | 2,hu=>simp at hu;subst hu;simp[Addr.add]
 | 3,hu=>simp at hu;subst hu;simp[Addr.add]
 | j+4,hu=>simp at hu
theorem cut_ink (l:LU):(Lib.cut l [32]).1=l.take (runN inkB l):=by
 by_cases h:runN inkB l<l.length
 ·obtain⟨a,r,hd,ha⟩:=runN_head l h
  have ha:a=32:=by simpa [inkB] using ha
  subst ha
  have h1:l[runN inkB l]?=some 32:=by
   have:=congrArg (fun x=>x[0]?) hd
   simpa [List.getElem?_drop] using this
  have h0:(l.take (runN inkB l)).contains 32=false:=by
   cases hc:(l.take (runN inkB l)).contains 32 with
   | false=>rfl
   | true=>
    have hm:(32:UInt8)∈l.take (runN inkB l):=by simpa using hc
    have:l.take (runN inkB l)=l.takeWhile inkB:=by unfold runN;exact(List.prefix_iff_eq_take.1 (List.takeWhile_prefix _)).symm
    rw[this] at hm
    have:=List.all_eq_true.1 (List.all_takeWhile (p:=inkB) (l:=l)) 32 hm
    simp[inkB] at this
  rw[cut_of l _ h0 h1]
 ·have hl:=runN_le inkB l
  have he:runN inkB l=l.length:=by omega
  have hc:l.contains 32=false:=by
   cases hc:l.contains 32 with
   | false=>rfl
   | true=>
    have hm:(32:UInt8)∈l:=by simpa using hc
    have:l.takeWhile inkB=l:=by
     have:=List.prefix_iff_eq_take.1 (List.takeWhile_prefix (p:=inkB) (l:=l))
     rw[this];exact tL (by unfold runN at he;omega)
    rw[←this] at hm
    have:=List.all_eq_true.1 (List.all_takeWhile (p:=inkB) (l:=l)) 32 hm
    simp[inkB] at this
  rw[cut_none l hc,he,List.take_length]
end
end Go.Proofs.YtdfdllbebfoggaaGreatDoor
