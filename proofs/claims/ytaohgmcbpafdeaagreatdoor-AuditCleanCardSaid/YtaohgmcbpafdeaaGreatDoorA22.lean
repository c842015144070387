/- A part of the proof. -/
import Derived.Test.YtaohgmcbpafdeaaGreatDoorA05
import Derived.Test.YtaohgmcbpafdeaaGreatDoorA07
import Derived.Test.YtaohgmcbpafdeaaGreatDoorA10
set_option maxRecDepth 100000
set_option maxHeartbeats 20000000
set_option linter.unusedVariables false
set_option linter.unusedSimpArgs false
namespace Go.Proofs.YtaohgmcbpafdeaaGreatDoor
section
open Go.RowKit
structure Pc where
 kind:Int
 text:LU
 word:Int
def Pc.cells (x:Pc):LV:=[.int .i64 x.kind,.string ⟨x.text.toArray⟩,.int .i64 x.word]
theorem IM (x:Pc):x.cells.length=3:=rfl
def xc:List (LU):=[[97,108,112,104,97],[98,101,116,97],[112,114,101],[114,99],[99,118,115],[115,118,110],[103,105,116],[104,103],[112]]
def uI:List (LU)→LU→Option Nat
 | [],_=>none
 | a::r,x=>if a=x then some 0 else (uI r x).map (· + 1)
def kZ (l:LU):Option Nat:=uI xc l
def iQ:Nat→Int→List Pc→LU→Option (List Pc×LU)
 | 0,_,_,_=>none
 | k+1,kind,acc,l=>if aA cu l=0 then none else match l.drop (aA cu l) with
  | 46::r=>iQ k 6 (acc++[⟨kind,l.take (aA cu l),0⟩]) r
  | r=>some (acc++[⟨kind,l.take (aA cu l),0⟩],r)
def my (acc:List Pc)(l:LU):List Pc×LU:=match l with
 | c::r=>if gK c=true then (acc++[⟨5,[c],0⟩],r) else (acc,l)
 | []=>(acc,[])
def fM:Nat→List Pc→LU→Option (List Pc×LU)
 | 0,_,_=>none
 | k+1,acc,l=>match l with
  | 95::r=>match kZ (r.take (aA gK r)) with
   | none=>none
   | some wd=>fM k (acc++[⟨if 4≤wd then 4 else 0,r.take (aA gK r),wd⟩]++(if 0<aA cu (r.drop (aA gK r)) then [⟨3,(r.drop (aA gK r)).take (aA cu (r.drop (aA gK r))),0⟩] else [])) ((r.drop (aA gK r)).drop (aA cu (r.drop (aA gK r))))
  | l=>some (acc,l)
def qr (l:LU)(acc:List Pc)(r:LU):Option (List Pc×LU×LU):=match r with
 | []=>some (acc++[⟨1,[],0⟩],l,[])
 | 45::114::t=>if kf t=true then some (acc++[⟨2,t,0⟩]++[⟨1,[],0⟩],l.take (l.length-r.length),t) else none
 | _=>none
def sn (l:LU):Option (List Pc×LU×LU):=match iQ (l.length+1) 7 [] l with
 | none=>none
 | some (a,r)=>match fM ((my a r).2.length+1) (my a r).1 (my a r).2 with
  | none=>none
  | some (b,t)=>qr l b t
structure ut (w wr:World) (ps:List Pc) (r:BA):Prop where
 lcell:∃ A c,wr.cell? ⟨w.heap.size,0,none⟩=some (.slice A ps.length c)∧wr.ownsRow (w.heap.size+2) 207 3 (.slice A ps.length c) ps.length (ps.flatMap Pc.cells)
 lfree:wr.frozen? ⟨w.heap.size,0,none⟩=false
 rcell:wr.cell? ⟨w.heap.size+1,0,none⟩=some (.string r)
 rfree:wr.frozen? ⟨w.heap.size+1,0,none⟩=false
 bel:Below w.heap.size w wr
 sz:w.heap.size+2≤wr.heap.size
theorem iR:(Tryz.prog.info? 207).map (fun i=>(i.zero,i.size,i.bytes))=some (some (.agg #[.int .i64 0,.string ⟨#[]⟩,.int .i64 0]),3,32):=by kernel_rfl
theorem iS (w:World)(t:TypeId)(x y z:Value):iF (w.alloc (.cells #[x,y,z] t)).drew (w.heap.size+1) 3 (some ⟨w.heap.size,0,none⟩) 1 [x,y,z]:=by
 refine⟨rfl,fun _=>⟨_,rfl,by simp,fun j u hu=>?_⟩⟩
 match j,hu with
 | 0,hu=>simp at hu;subst hu;simp[Addr.add]
 | 1,hu=>simp at hu;subst hu;simp[Addr.add]
 | 2,hu=>simp at hu;subst hu;simp[Addr.add]
 | j+3,hu=>simp at hu
theorem ut.setRest {w wr:World}{ps:List Pc}{r:BA}(h:ut w wr ps r)(t:BA):ut w (wr.setCell ⟨w.heap.size+1,0,none⟩ (.string t)) ps t:=by
 obtain⟨⟨A,c,h1,h2⟩,h3,h4,h5,h6,h7⟩:=h
 have hg:wr.grownBy (wr.setCell ⟨w.heap.size+1,0,none⟩ (.string t)) (some (w.heap.size+1)):=aY (World.grownBy.refl wr (some (w.heap.size+1))) (.inl rfl) _
 refine⟨⟨A,c,hg.cell h1 (by simp),h2.kept hg ?_⟩,?_,?_,?_,h6.grown hg h6.size (fun j hj=>by injection hj with hj;omega),Nat.le_trans h7 hg.size⟩
 ·cases hq:(Value.slice A ps.length c).ownBlock with
  | none=>exact .inl rfl
  | some q=>right;intro he;injection he with he;have:=(h2.lt q hq).1;omega
 ·rw[World.frozen?_setCell];exact h3
 ·exact World.cell?_setCell_same' _ _ _ (by rw[h4];rfl)
 ·rw[World.frozen?_setCell];exact h5
theorem gO (w:World)(kind:Int)(n:Nat)(ps:List Pc)(r:BA)(wr:World)(hn:n≤r.size)(hr:r.size≤64)(hps:ps.length≤1000)(hP:ut w wr ps r):
  Calls Tryz.prog 150 #[.int .i64 kind,.int .i64 n,.pointer (some ⟨w.heap.size,0,none⟩),.pointer (some ⟨w.heap.size+1,0,none⟩)] wr fun e w'=>e=.returned (.tuple #[])∧ut w w' (ps++[⟨kind,(bl r).take n,0⟩]) (r.extract n r.size):=by
 obtain⟨i0,hi0,hz0,hz1,hz2⟩:=info_parts iR
 obtain⟨⟨A,c,h1,h2⟩,h3,h4,h5,h6,h7⟩:=hP
 have HO:=ae h2;have HB:=ae h6
 clear h2 h6
 have NL:Hid (some w.heap.size≠(Value.slice A ps.length c).ownBlock):=by intro he;have:=(HO.out.lt _ he.symm).1;omega
 have NR:Hid (some (w.heap.size+1)≠(Value.slice A ps.length c).ownBlock):=by intro he;have:=(HO.out.lt _ he.symm).1;omega
 have i1:(n:Int)≤(r.size:Int):=by omega
 have hl0:w.heap.size<wr.heap.size:=by omega
 have hl1:w.heap.size+1<wr.heap.size:=by omega
 go_enter Tryz.func150,Tryz.ntmps150
 go_wp2_with fail
 have hn3:¬ w.heap.size=wr.heap.size:=by omega
 have hn4:¬ w.heap.size+1=wr.heap.size:=by omega
 have CL:Hid ((wr.alloc (.cells #[.int .i64 kind,.string (r.extract 0 n),.int .i64 0] 207)).drew.cell? ⟨w.heap.size,0,none⟩=some (.slice A ps.length c)):=(World.cell?_alloc_lt wr _ ⟨w.heap.size,0,none⟩ hl0).trans h1
 have FL:Hid ((wr.alloc (.cells #[.int .i64 kind,.string (r.extract 0 n),.int .i64 0] 207)).drew.frozen? ⟨w.heap.size,0,none⟩=false):=((bR.alloc lr _).frozen (p:=⟨w.heap.size,0,none⟩) hl0).trans h3
 have CR:Hid ((wr.alloc (.cells #[.int .i64 kind,.string (r.extract 0 n),.int .i64 0] 207)).drew.cell? ⟨w.heap.size+1,0,none⟩=some (.string r)):=(World.cell?_alloc_lt wr _ ⟨w.heap.size+1,0,none⟩ hl1).trans h4
 have FR:Hid ((wr.alloc (.cells #[.int .i64 kind,.string (r.extract 0 n),.int .i64 0] 207)).drew.frozen? ⟨w.heap.size+1,0,none⟩=false):=((bR.alloc lr _).frozen (p:=⟨w.heap.size+1,0,none⟩) hl1).trans h5
 go_region_law
  ((refine cn _ (by rfl) _ _ _ (by rfl) (w.heap.size+2) 207 i0 _ 3 32 Tryz.underlying168 hi0 hz0 hz1 hz2 rfl (by omega) (.slice A ps.length c) ps.length _ (by rfl) ((HO.out.alloc _).drew)
     (wr.heap.size+1) (some ⟨wr.heap.size,0,none⟩) 1 1 [.int .i64 kind,.string (r.extract 0 n),.int .i64 0] (by rfl) (iS wr _ _ _ _) (by simp[Value.oneCell']) (by unfold maxLen;omega) (by omega) (by simp;omega) ?_
    intro v1 w2 o2 g2 a2
    obtain⟨A1,c1,rfl⟩:=aP o2
    have cl2:w2.cell? ⟨w.heap.size,0,none⟩=some (.slice A ps.length c):=g2.cell CL.out NL.out
    have fl2:w2.frozen? ⟨w.heap.size,0,none⟩=false:=(World.frozen?_of_block (a:=⟨w.heap.size,0,none⟩) (g2.block w.heap.size (by simp;omega) NL.out)).trans FL.out
    have cr2:w2.cell? ⟨w.heap.size+1,0,none⟩=some (.string r):=g2.cell CR.out NR.out
    have fr2:w2.frozen? ⟨w.heap.size+1,0,none⟩=false:=(World.frozen?_of_block (a:=⟨w.heap.size+1,0,none⟩) (g2.block (w.heap.size+1) (by simp;omega) NR.out)).trans FR.out))
 all_goals
  go_wp2_with fail
  have P1:ut w (w2.setCell ⟨w.heap.size,0,none⟩ (.slice A1 (ps.length+1) c1)) (ps++[⟨kind,(bl r).take n,0⟩]) r:=by
   have hg:w2.grownBy (w2.setCell ⟨w.heap.size,0,none⟩ (.slice A1 (ps.length+1) c1)) (some w.heap.size):=aY (World.grownBy.refl w2 (some w.heap.size)) (.inl rfl) _
   have e1:(ps++[(⟨kind,(bl r).take n,0⟩:Pc)]).length=ps.length+1:=by simp
   have e2:(ps++[(⟨kind,(bl r).take n,0⟩:Pc)]).flatMap Pc.cells=ps.flatMap Pc.cells++[.int .i64 kind,.string (r.extract 0 n),.int .i64 0]:=by
    rw[List.flatMap_append]
    congr 1
    simp only[List.flatMap_cons,List.flatMap_nil,List.append_nil,Pc.cells]
    rw[show(⟨((bl r).take n).toArray⟩:BA)=r.extract 0 n from by apply dY;rw[ii,dw]]
   have b2:Below w.heap.size w w2:=(an (HB.out.alloc HB.out.size _) 1).grown g2 (by simp;omega) (fun j hj=>by have:=(HO.out.lt j hj).1;omega)
   refine⟨⟨A1,c1,by rw[e1];exact World.cell?_setCell_same' _ _ _ (by rw[cl2];rfl),?_⟩,by rw[World.frozen?_setCell];exact fl2,hg.cell cr2 (by simp),by rw[World.frozen?_setCell];exact fr2,b2.grown hg b2.size (fun j hj=>by injection hj with hj;omega),?_⟩
   ·rw[e1,e2]
    refine o2.kept hg ?_
    cases hq:(Value.slice A1 (ps.length+1) c1).ownBlock with
    | none=>exact .inl rfl
    | some q=>right;intro he;injection he with he;have:=(o2.lt q hq).1;omega
   ·have z1:=g2.size;have z2:=hg.size;simp at z1;omega
  go_end0
  exact⟨rfl,P1.setRest _⟩
theorem yZ (x:LU):∀ (l:List (LU))(k:Nat),(∀ j,j<k→l[j]?≠some x)→l[k]?=some x→uI l x=some k
 | [],k,_,h=>by simp at h
 | a::r,0,_,h=>by simp at h;simp[uI,h]
 | a::r,k+1,hn,h=>by
  have ha:a≠x:=fun e=>hn 0 (by omega) (by simp[e])
  have:=yZ x r k (fun j hj=>by simpa using hn (j+1) (by omega)) (by simpa using h)
  simp[uI,ha,this]
theorem vA (x:LU):∀ (l:List (LU)),(∀ j:Nat,l[j]?≠some x)→uI l x=none
 | [],_=>rfl
 | a::r,hn=>by
  have ha:a≠x:=fun e=>hn 0 (by simp[e])
  have:=vA x r (fun j=>by simpa using hn (j+1))
  simp[uI,ha,this]
theorem pe (j:Nat)(h:j<9):xc[j]?=some (bl (mi j)):=by
 rcases(by omega:j=0∨j=1∨j=2∨j=3∨j=4∨j=5∨j=6∨j=7∨j=8) with rfl | rfl | rfl | rfl | rfl | rfl | rfl | rfl | rfl<;>rfl
theorem Bu {s:BA}{k:Nat}(hk:k<9)(hn:∀ j,j<k→¬ mi j=s)(h:mi k=s):kZ (bl s)=some k:=
 yZ _ _ k (fun j hj=>by rw[pe j (by omega)];intro e;injection e with e;exact hn j hj (dY e)) (by rw[pe k hk,h])
theorem zc {s:BA}(hn:∀ j,j<9→¬ mi j=s):kZ (bl s)=none:=
 vA _ _ (fun j=>by
  by_cases hj:j<9
  ·rw[pe j hj];intro e;injection e with e;exact hn j hj (dY e)
  ·rw[List.getElem?_eq_none (by simp[xc];omega)];simp)
def Na (s:BA):Int:=match kZ (bl s) with | some i=>i | none=>-1
theorem Pb (k:Nat)(hk:k<9)(x:Nat→BA)(w:World):(Instr.index 256 (.agg #[.string (x 0),.string (x 1),.string (x 2),.string (x 3),.string (x 4),.string (x 5),.string (x 6),.string (x 7),.string (x 8)]) (.int .i64 k)).run Tryz.prog w=.ok (.string (x k)) w:=by
 rcases(by omega:k=0∨k=1∨k=2∨k=3∨k=4∨k=5∨k=6∨k=7∨k=8) with rfl | rfl | rfl | rfl | rfl | rfl | rfl | rfl | rfl<;>kernel_rfl
theorem sq (s:BA)(w:World)(hG:Gl w):
  Calls Tryz.prog 154 #[.string s] w fun e w'=>e=.returned (.int .i64 (Na s))∧w=w':=by
 have g0:=hG.vwd 0 (by omega)
 have g1:=hG.vwd 1 (by omega)
 have g2:=hG.vwd 2 (by omega)
 have g3:=hG.vwd 3 (by omega)
 have g4:=hG.vwd 4 (by omega)
 have g5:=hG.vwd 5 (by omega)
 have g6:=hG.vwd 6 (by omega)
 have g7:=hG.vwd 7 (by omega)
 have g8:=hG.vwd 8 (by omega)
 clear hG
 go_enter Tryz.func154,Tryz.ntmps154
 go_wp2_with fail
 clear g0 g1 g2 g3 g4 g5 g6 g7 g8
 go_loop [6] (fun i=>∃ k:Nat,k≤9∧i=.int .i64 k∧Hid (∀ j,j<k→¬ mi j=s)) (fun i=>9-(intOf i).toNat)
 case atStart=>exact⟨0,by omega,rfl,ae (fun j hj=>by omega)⟩
 case round=>
  obtain⟨k,hk,rfl,HN⟩:=hrel
  by_cases hlt:k<9
  ·have hix:=fun W=>Pb k hlt mi W
   cases hE:((mi k).toList==s.toList)
   ·have HNE:Hid (¬ mi k=s):=by show ¬ _;rw[dx] at hE;exact of_decide_eq_false hE
    go_wp2_with fail
    go_round
    case rel=>exact⟨k+1,by omega,by go_num,ae (fun j hj=>by
     by_cases e:j=k
     ·subst e;exact HNE.out
     ·exact HN.out j (by omega))⟩
    case measure=>simp[intOf];omega
   ·have HE:Hid (mi k=s):=by show _=_;rw[dx] at hE;exact dO hE
    go_wp2_with fail
    go_ret
    exact⟨ap (by unfold Na;rw[Bu hlt HN.out HE.out]),rfl⟩
  ·go_wp2_with fail
   go_ret
   exact⟨ap (by unfold Na;rw[zc (fun j hj=>HN.out j (by omega))]),rfl⟩
end
end Go.Proofs.YtaohgmcbpafdeaaGreatDoor
