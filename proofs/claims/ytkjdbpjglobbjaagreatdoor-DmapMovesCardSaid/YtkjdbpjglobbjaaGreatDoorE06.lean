/- A part of the proof of a law on dependencies in three formats. No condition. -/
import Derived.Test.YtkjdbpjglobbjaaGreatDoorE04
set_option maxRecDepth 100000
set_option maxHeartbeats 20000000
set_option linter.unusedVariables false
set_option linter.unusedSimpArgs false
namespace Go.Proofs.YtkjdbpjglobbjaaGreatDoor
section
open Go.RowKit
theorem ED (s:BA)(c:UInt8)(h:(bl s).contains c=false):Ep s c=-1:=by
 have h1:=ju s c h
 have h2:=Lib.indexByte_ge (bl s) c
 unfold Ep at *;omega
theorem Rb {T E:TypeId}{sz:Nat}(hT:Tryz.prog.underlying T=some (.slice (Tryz.prog.elem T)))(hE:Tryz.prog.elem T=E)(hs:∀ w,(sizeOf E).run Tryz.prog w=.ok sz w)
  {A:Option Addr}{n c k b off:Nat}{i:Int}(hi:i=k)(hA:A=some ⟨b,off,none⟩)(hk:k<n)(w:World):(Instr.indexAt T (.slice A n c) (.int .i64 i)).run Tryz.prog w=.ok (.pointer (some ⟨b,off+k*sz,none⟩)) w:=by
 subst hi;exact aH hT hE hs hA hk w
structure Pc where
 kind:Int
 text:LU
 word:Int
def Pc.cells (x:Pc):List Value:=[.int .i64 x.kind,.string ⟨x.text.toArray⟩,.int .i64 x.word]
theorem CD (x:Pc):x.cells.length=3:=rfl
def pX:List (LU):=[[97,108,112,104,97],[98,101,116,97],[112,114,101],[114,99],[99,118,115],[115,118,110],[103,105,116],[104,103],[112]]
def oY:List (LU)→LU→Option Nat
 | [],_=>none
 | a::r,x=>if a=x then some 0 else (oY r x).map (· + 1)
def dt (l:LU):Option Nat:=oY pX l
def dS:Nat→Int→List Pc→LU→Option (List Pc×LU)
 | 0,_,_,_=>none
 | k+1,kind,acc,l=>if au aD l=0 then none else match l.drop (au aD l) with
  | 46::r=>dS k 6 (acc++[⟨kind,l.take (au aD l),0⟩]) r
  | r=>some (acc++[⟨kind,l.take (au aD l),0⟩],r)
def fi (acc:List Pc)(l:LU):List Pc×LU:=match l with
 | c::r=>if be c=true then (acc++[⟨5,[c],0⟩],r) else (acc,l)
 | []=>(acc,[])
def dU:Nat→List Pc→LU→Option (List Pc×LU)
 | 0,_,_=>none
 | k+1,acc,l=>match l with
  | 95::r=>match dt (r.take (au be r)) with
   | none=>none
   | some wd=>dU k (acc++[⟨if 4≤wd then 4 else 0,r.take (au be r),wd⟩]++(if 0<au aD (r.drop (au be r)) then [⟨3,(r.drop (au be r)).take (au aD (r.drop (au be r))),0⟩] else [])) ((r.drop (au be r)).drop (au aD (r.drop (au be r))))
  | l=>some (acc,l)
def jA (l:LU)(acc:List Pc)(r:LU):Option (List Pc×LU×LU):=match r with
 | []=>some (acc++[⟨1,[],0⟩],l,[])
 | 45::114::t=>if gV t=true then some (acc++[⟨2,t,0⟩]++[⟨1,[],0⟩],l.take (l.length-r.length),t) else none
 | _=>none
def kB (l:LU):Option (List Pc×LU×LU):=match dS (l.length+1) 7 [] l with
 | none=>none
 | some (a,r)=>match dU ((fi a r).2.length+1) (fi a r).1 (fi a r).2 with
  | none=>none
  | some (b,t)=>jA l b t
structure zo (w wr:World) (ps:List Pc) (r:BA):Prop where
 lcell:∃ A c,wr.cell? ⟨w.heap.size,0,none⟩=some (.slice A ps.length c)∧wr.ownsRow (w.heap.size+2) 218 3 (.slice A ps.length c) ps.length (ps.flatMap Pc.cells)
 lfree:wr.frozen? ⟨w.heap.size,0,none⟩=false
 rcell:wr.cell? ⟨w.heap.size+1,0,none⟩=some (.string r)
 rfree:wr.frozen? ⟨w.heap.size+1,0,none⟩=false
 bel:Below w.heap.size w wr
 sz:w.heap.size+2≤wr.heap.size
theorem kC:(Tryz.prog.info? 218).map (fun i=>(i.zero,i.size,i.bytes))=some (some (.agg #[.int .i64 0,.string ⟨#[]⟩,.int .i64 0]),3,32):=by kernel_rfl
theorem ir (w:World)(t:TypeId)(x y z:Value):jQ (w.alloc (.cells #[x,y,z] t)).drew (w.heap.size+1) 3 (some ⟨w.heap.size,0,none⟩) 1 [x,y,z]:=by
 refine⟨rfl,fun _=>⟨_,rfl,by simp,fun j u hu=>?_⟩⟩
 match j,hu with
 | 0,hu=>simp at hu;subst hu;simp[Addr.add]
 | 1,hu=>simp at hu;subst hu;simp[Addr.add]
 | 2,hu=>simp at hu;subst hu;simp[Addr.add]
 | j+3,hu=>simp at hu
theorem zo.setRest {w wr:World}{ps:List Pc}{r:BA}(h:zo w wr ps r)(t:BA):zo w (wr.setCell ⟨w.heap.size+1,0,none⟩ (.string t)) ps t:=by
 obtain⟨⟨A,c,h1,h2⟩,h3,h4,h5,h6,h7⟩:=h
 have hg:wr.grownBy (wr.setCell ⟨w.heap.size+1,0,none⟩ (.string t)) (some (w.heap.size+1)):=aU (World.grownBy.refl wr (some (w.heap.size+1))) (.inl rfl) _
 refine⟨⟨A,c,hg.cell h1 (by simp),h2.kept hg ?_⟩,?_,?_,?_,h6.grown hg h6.size (fun j hj=>by injection hj with hj;omega),Nat.le_trans h7 hg.size⟩
 ·cases hq:(Value.slice A ps.length c).ownBlock with
  | none=>exact .inl rfl
  | some q=>right;intro he;injection he with he;have:=(h2.lt q hq).1;omega
 ·rw[World.frozen?_setCell];exact h3
 ·exact World.cell?_setCell_same' _ _ _ (by rw[h4];rfl)
 ·rw[World.frozen?_setCell];exact h5
theorem jB (w:World)(kind:Int)(n:Nat)(ps:List Pc)(r:BA)(wr:World)(hn:n≤r.size)(hr:r.size≤64)(hps:ps.length≤1000)(hP:zo w wr ps r):
  Calls Tryz.prog 153 #[.int .i64 kind,.int .i64 n,.pointer (some ⟨w.heap.size,0,none⟩),.pointer (some ⟨w.heap.size+1,0,none⟩)] wr fun e w'=>e=.returned (.tuple #[])∧zo w w' (ps++[⟨kind,(bl r).take n,0⟩]) (r.extract n r.size):=by
 obtain⟨i0,hi0,hz0,hz1,hz2⟩:=info_parts kC
 obtain⟨⟨A,c,h1,h2⟩,h3,h4,h5,h6,h7⟩:=hP
 have HO:=ae h2;have HB:=ae h6
 clear h2 h6
 have NL:Hid (some w.heap.size≠(Value.slice A ps.length c).ownBlock):=by intro he;have:=(HO.out.lt _ he.symm).1;omega
 have NR:Hid (some (w.heap.size+1)≠(Value.slice A ps.length c).ownBlock):=by intro he;have:=(HO.out.lt _ he.symm).1;omega
 have i1:(n:Int)≤(r.size:Int):=by omega
 have hl0:w.heap.size<wr.heap.size:=by omega
 have hl1:w.heap.size+1<wr.heap.size:=by omega
 go_enter Tryz.func153,Tryz.ntmps153
 go_wp2_with fail
 have hn3:¬ w.heap.size=wr.heap.size:=by omega
 have hn4:¬ w.heap.size+1=wr.heap.size:=by omega
 have CL:Hid ((wr.alloc (.cells #[.int .i64 kind,.string (r.extract 0 n),.int .i64 0] 218)).drew.cell? ⟨w.heap.size,0,none⟩=some (.slice A ps.length c)):=(World.cell?_alloc_lt wr _ ⟨w.heap.size,0,none⟩ hl0).trans h1
 have FL:Hid ((wr.alloc (.cells #[.int .i64 kind,.string (r.extract 0 n),.int .i64 0] 218)).drew.frozen? ⟨w.heap.size,0,none⟩=false):=((bR.alloc lr _).frozen (p:=⟨w.heap.size,0,none⟩) hl0).trans h3
 have CR:Hid ((wr.alloc (.cells #[.int .i64 kind,.string (r.extract 0 n),.int .i64 0] 218)).drew.cell? ⟨w.heap.size+1,0,none⟩=some (.string r)):=(World.cell?_alloc_lt wr _ ⟨w.heap.size+1,0,none⟩ hl1).trans h4
 have FR:Hid ((wr.alloc (.cells #[.int .i64 kind,.string (r.extract 0 n),.int .i64 0] 218)).drew.frozen? ⟨w.heap.size+1,0,none⟩=false):=((bR.alloc lr _).frozen (p:=⟨w.heap.size+1,0,none⟩) hl1).trans h5
 go_region_law
  ((refine dj _ (by rfl) _ _ _ (by rfl) (w.heap.size+2) 218 i0 _ 3 32 Tryz.underlying182 hi0 hz0 hz1 hz2 rfl (by omega) (.slice A ps.length c) ps.length _ (by rfl) ((HO.out.alloc _).drew)
     (wr.heap.size+1) (some ⟨wr.heap.size,0,none⟩) 1 1 [.int .i64 kind,.string (r.extract 0 n),.int .i64 0] (by rfl) (ir wr _ _ _ _) (by simp[Value.oneCell']) (by unfold maxLen;omega) (by omega) (by simp;omega) ?_
    intro v1 w2 o2 g2 a2
    obtain⟨A1,c1,rfl⟩:=aG o2
    have cl2:w2.cell? ⟨w.heap.size,0,none⟩=some (.slice A ps.length c):=g2.cell CL.out NL.out
    have fl2:w2.frozen? ⟨w.heap.size,0,none⟩=false:=(World.frozen?_of_block (a:=⟨w.heap.size,0,none⟩) (g2.block w.heap.size (by simp;omega) NL.out)).trans FL.out
    have cr2:w2.cell? ⟨w.heap.size+1,0,none⟩=some (.string r):=g2.cell CR.out NR.out
    have fr2:w2.frozen? ⟨w.heap.size+1,0,none⟩=false:=(World.frozen?_of_block (a:=⟨w.heap.size+1,0,none⟩) (g2.block (w.heap.size+1) (by simp;omega) NR.out)).trans FR.out))
 all_goals
  go_wp2_with fail
  have P1:zo w (w2.setCell ⟨w.heap.size,0,none⟩ (.slice A1 (ps.length+1) c1)) (ps++[⟨kind,(bl r).take n,0⟩]) r:=by
   have hg:w2.grownBy (w2.setCell ⟨w.heap.size,0,none⟩ (.slice A1 (ps.length+1) c1)) (some w.heap.size):=aU (World.grownBy.refl w2 (some w.heap.size)) (.inl rfl) _
   have e1:(ps++[(⟨kind,(bl r).take n,0⟩:Pc)]).length=ps.length+1:=by simp
   have e2:(ps++[(⟨kind,(bl r).take n,0⟩:Pc)]).flatMap Pc.cells=ps.flatMap Pc.cells++[.int .i64 kind,.string (r.extract 0 n),.int .i64 0]:=by
    rw[List.flatMap_append]
    congr 1
    simp only[List.flatMap_cons,List.flatMap_nil,List.append_nil,Pc.cells]
    rw[show(⟨((bl r).take n).toArray⟩:BA)=r.extract 0 n from by apply dp;rw[gI,bV]]
   have b2:Below w.heap.size w w2:=(bJ (HB.out.alloc HB.out.size _) 1).grown g2 (by simp;omega) (fun j hj=>by have:=(HO.out.lt j hj).1;omega)
   refine⟨⟨A1,c1,by rw[e1];exact World.cell?_setCell_same' _ _ _ (by rw[cl2];rfl),?_⟩,by rw[World.frozen?_setCell];exact fl2,hg.cell cr2 (by simp),by rw[World.frozen?_setCell];exact fr2,b2.grown hg b2.size (fun j hj=>by injection hj with hj;omega),?_⟩
   ·rw[e1,e2]
    refine o2.kept hg ?_
    cases hq:(Value.slice A1 (ps.length+1) c1).ownBlock with
    | none=>exact .inl rfl
    | some q=>right;intro he;injection he with he;have:=(o2.lt q hq).1;omega
   ·have z1:=g2.size;have z2:=hg.size;simp at z1;omega
  go_end0
  exact⟨rfl,P1.setRest _⟩
theorem EE (x:LU):∀ (l:List (LU))(k:Nat),(∀ j,j<k→l[j]?≠some x)→l[k]?=some x→oY l x=some k
 | [],k,_,h=>by simp at h
 | a::r,0,_,h=>by simp at h;simp[oY,h]
 | a::r,k+1,hn,h=>by
  have ha:a≠x:=fun e=>hn 0 (by omega) (by simp[e])
  have:=EE x r k (fun j hj=>by simpa using hn (j+1) (by omega)) (by simpa using h)
  simp[oY,ha,this]
theorem As (x:LU):∀ (l:List (LU)),(∀ j:Nat,l[j]?≠some x)→oY l x=none
 | [],_=>rfl
 | a::r,hn=>by
  have ha:a≠x:=fun e=>hn 0 (by simp[e])
  have:=As x r (fun j=>by simpa using hn (j+1))
  simp[oY,ha,this]
theorem ot (j:Nat)(h:j<9):pX[j]?=some (bl (ci j)):=by
 rcases(by omega:j=0∨j=1∨j=2∨j=3∨j=4∨j=5∨j=6∨j=7∨j=8) with rfl | rfl | rfl | rfl | rfl | rfl | rfl | rfl | rfl<;>rfl
theorem Hy {s:BA}{k:Nat}(hk:k<9)(hn:∀ j,j<k→¬ ci j=s)(h:ci k=s):dt (bl s)=some k:=
 EE _ _ k (fun j hj=>by rw[ot j (by omega)];intro e;injection e with e;exact hn j hj (dp e)) (by rw[ot k hk,h])
theorem EH {s:BA}(hn:∀ j,j<9→¬ ci j=s):dt (bl s)=none:=
 As _ _ (fun j=>by
  by_cases hj:j<9
  ·rw[ot j hj];intro e;injection e with e;exact hn j hj (dp e)
  ·rw[List.getElem?_eq_none (by simp[pX];omega)];simp)
def N9 (s:BA):Int:=match dt (bl s) with | some i=>i | none=>-1
theorem UO (k:Nat)(hk:k<9)(x:Nat→BA)(w:World):(Instr.index 255 (.agg #[.string (x 0),.string (x 1),.string (x 2),.string (x 3),.string (x 4),.string (x 5),.string (x 6),.string (x 7),.string (x 8)]) (.int .i64 k)).run Tryz.prog w=.ok (.string (x k)) w:=by
 rcases(by omega:k=0∨k=1∨k=2∨k=3∨k=4∨k=5∨k=6∨k=7∨k=8) with rfl | rfl | rfl | rfl | rfl | rfl | rfl | rfl | rfl<;>kernel_rfl
theorem vN (s:BA)(w:World)(hG:Gl w):
  Calls Tryz.prog 156 #[.string s] w fun e w'=>e=.returned (.int .i64 (N9 s))∧w=w':=by
 have g0:=hG.vwd 0 (by omega)
 have g1:=hG.vwd 1 (by omega)
 have g2:=hG.vwd 2 (by omega)
 have g3:=hG.vwd 3 (by omega)
 have g4:=hG.vwd 4 (by omega)
 have g5:=hG.vwd 5 (by omega)
 have g6:=hG.vwd 6 (by omega)
 have g7:=hG.vwd 7 (by omega)
 have g8:=hG.vwd 8 (by omega)
 clear hG
 go_enter Tryz.func156,Tryz.ntmps156
 go_wp2_with fail
 clear g0 g1 g2 g3 g4 g5 g6 g7 g8
 go_loop [6] (fun i=>∃ k:Nat,k≤9∧i=.int .i64 k∧Hid (∀ j,j<k→¬ ci j=s)) (fun i=>9-(intOf i).toNat)
 case atStart=>exact⟨0,by omega,rfl,ae (fun j hj=>by omega)⟩
 case round=>
  obtain⟨k,hk,rfl,HN⟩:=hrel
  by_cases hlt:k<9
  ·have hix:=fun W=>UO k hlt ci W
   cases hE:((ci k).toList==s.toList)
   ·have HNE:Hid (¬ ci k=s):=by show ¬ _;rw[fZ] at hE;exact of_decide_eq_false hE
    go_wp2_with fail
    go_round
    case rel=>exact⟨k+1,by omega,by go_num,ae (fun j hj=>by
     by_cases e:j=k
     ·subst e;exact HNE.out
     ·exact HN.out j (by omega))⟩
    case measure=>simp[intOf];omega
   ·have HE:Hid (ci k=s):=by show _=_;rw[fZ] at hE;exact dO hE
    go_wp2_with fail
    go_ret
    exact⟨az (by unfold N9;rw[Hy hlt HN.out HE.out]),rfl⟩
  ·go_wp2_with fail
   go_ret
   exact⟨az (by unfold N9;rw[EH (fun j hj=>HN.out j (by omega))]),rfl⟩
theorem vS {c:UInt8}:∀ (l:LU)(k:Nat),(l.take k).contains c=false→l[k]?=some c→Lib.cut l [c]=(l.take k,l.drop (k+1),true):=by
 intro l k h0 h1
 have hk:k<l.length:=(gS h1).1
 have hi:Lib.indexByte l c=k:=by
  have key:∀ (l:LU)(k:Nat),(l.take k).contains c=false→l[k]?=some c→Lib.indexByte l c=k:=by
   intro l
   induction l with
   | nil=>intro k _ h;simp at h
   | cons b r ih=>
    intro k h0 h1
    cases k with
    | zero=>simp at h1;subst h1;simp[Lib.indexByte]
    | succ k=>
     simp at h1
     rw[List.take_succ_cons,List.contains_cons,Bool.or_eq_false_iff] at h0
     have hb:(b==c)=false:=by have:=h0.1;simp at this ⊢;exact fun e=>this e.symm
     have hr:=ih k h0.2 h1
     simp only[Lib.indexByte,hb,hr]
     rw[if_neg (by simp),if_neg (by simp;try omega)];omega
  exact key l k h0 h1
 unfold Lib.cut
 rw[Lib.index_one,hi]
 simp
theorem rm {c:UInt8}(l:LU)(h:l.contains c=false):Lib.cut l [c]=(l,[],false):=by
 have hi:Lib.indexByte l c=-1:=by
  have h1:=ED ⟨l.toArray⟩ c (by simpa [bl] using h)
  simpa [Ep,bl] using h1
 unfold Lib.cut
 rw[Lib.index_one,hi]
 simp
def jI (c:UInt8):Bool:=cD c||aD c||c==46||c==95||c==47
def iN (c:UInt8):Bool:=jI c||c==43||c==45||c==58||c==64
def eB (l:LU):Bool:=decide (1≤l.length∧l.length≤64)&&(match l with | c::_=>jI c | []=>false)&&l.all iN
theorem dV (p:UInt8→Bool)(h:(List.range 256).all (fun n=>p (UInt8.ofNat n))=true)(c:UInt8):p c=true:=by
 have:=List.all_eq_true.1 h c.toNat (List.mem_range.2 c.toNat_lt)
 simpa using this
theorem Oj (c:UInt8)(h1:cD c=false)(h2:aD c=false):(bl ⟨#[46,95,43,45,58,47,64]⟩).contains c=iN c:=by
 simp only[iN,jI,h1,h2,bl]
 rw[bI]
 simp
 grind
theorem Ok (c:UInt8)(h:iN c=true):(bl ⟨#[45,43,58,64]⟩).contains c=!jI c:=by
 exact dV (fun c=>!iN c||((bl ⟨#[45,43,58,64]⟩).contains c == !jI c)) (by kernel_rfl) c |> fun hh=>by simpa [h] using hh
theorem Aw (s:BA)(k:Nat)(h:k<s.size)(h1:iN s[k]=false):eB (bl s)=false:=by
 have:(bl s).all iN=false:=by
  rw[List.all_eq_false]
  exact⟨s[k],gM (ie s k h),by rw[h1];simp⟩
 unfold eB;rw[this,Bool.and_false]
theorem H9 (s:BA)(k:Nat)(h:¬ k<s.size)(h0:0<s.size)(h64:s.size≤64)(hf:(bl ⟨#[45,43,58,64]⟩).contains s[0]=false)(ha:((bl s).take k).all iN=true):eB (bl s)=true:=by
 rw[tL (by rw[af];omega)] at ha
 have hc:=dZ s h0
 have h1:iN s[0]=true:=by rw[hc,List.all_cons,Bool.and_eq_true] at ha;exact ha.1
 have h2:jI s[0]=true:=by have:=Ok s[0] h1;rw[hf] at this;simpa using this.symm
 unfold eB
 rw[ha,af,dT ⟨by omega,h64⟩]
 rw[hc]
 simp[h2]
theorem Ia (s:BA)(h0:0<s.size)(hf:(bl ⟨#[45,43,58,64]⟩).contains s[0]=true):eB (bl s)=false:=by
 cases hn:iN s[0] with
 | false=>exact Aw s 0 h0 hn
 | true=>
  have h2:jI s[0]=false:=by have:=Ok s[0] hn;rw[hf] at this;simpa using this.symm
  unfold eB
  rw[dZ s h0]
  simp[h2]
theorem wl (s:BA)(h:¬ (1≤s.size∧s.size≤64)):eB (bl s)=false:=by
 unfold eB;rw[af,dF h];rfl
theorem Ax (s:BA)(w:World)(hs:s.size≤9223372036854775807):
  Calls Tryz.prog 132 #[.string s] w fun e w'=>e=.returned (.bool (eB (bl s)))∧w=w':=by
 by_cases h0:s.size=0
 ·have he:s.toList=[]:=by rw[ai,bj s h0]
  have he2:s.toList.isEmpty=true:=by rw[he];rfl
  have E:Hid (eB (bl s)=false):=wl s (by omega)
  go_enter Tryz.func132,Tryz.ntmps132
  go_wp2_with fail
  go_ret
  exact⟨am E.out.symm,rfl⟩
 have hp:0<s.size:=by omega
 have he2:s.toList.isEmpty=false:=by rw[ai,aL];exact dF h0
 have he:¬ s.toList=[]:=by intro h;rw[h] at he2;simp at he2
 by_cases h64:64<s.size
 ·have E:Hid (eB (bl s)=false):=wl s (by omega)
  go_enter Tryz.func132,Tryz.ntmps132
  go_wp2_with fail
  go_ret
  exact⟨am E.out.symm,rfl⟩
 cases hf:(bl ⟨#[45,43,58,64]⟩).contains s[0] with
 | true=>
  have hn:=jY ⟨#[45,43,58,64]⟩ s[0] hf
  have E:Hid (eB (bl s)=false):=Ia s hp hf
  clear hf
  go_enter Tryz.func132,Tryz.ntmps132
  go_wp2_with (go_at_call 68;refine(bt _ s[0] _).mono ?_;rintro e w' ⟨rfl,rfl⟩)
  go_ret
  exact⟨am E.out.symm,rfl⟩
 | false=>
  have hn:=ju ⟨#[45,43,58,64]⟩ s[0] hf
  have HF:=ae hf
  clear hf
  go_enter Tryz.func132,Tryz.ntmps132
  go_wp2_with (go_at_call 68;refine(bt _ s[0] _).mono ?_;rintro e w' ⟨rfl,rfl⟩)
  go_loop [21] (fun i=>∃ k:Nat,k≤s.size∧i=.int .i64 k∧Hid (((bl s).take k).all iN=true)) (fun i=>s.size-(intOf i).toNat)
  case atStart=>exact⟨0,z0,rfl,by simp[Hid]⟩
  case round=>
   obtain⟨k,hk,rfl,HA⟩:=hrel
   by_cases hlt:k<s.size
   ·go_upto_region 7 with(fail)
    go_cut [5] (fun v wx=>v=.bool (cD s[k])∧w=wx)
    case first=>
     go_wp2_with fail
     all_goals go_meet
     all_goals (refine⟨?_,rfl⟩;congr 1;rw[bI];simp[cD,be,zw];omega)
    case rest=>
    obtain⟨rfl,rfl⟩:=hcut
    have IB:=fun W=>bt ⟨#[46,95,43,45,58,47,64]⟩ s[k] W
    cases hl:cD s[k] with
    | true=>
     have HN:Hid (iN s[k]=true):=by show _=_;simp[iN,jI,hl]
     clear hl
     go_wp2_with fail
     go_round
     case rel=>exact⟨k+1,by omega,by go_num,by show _=_;rw[di s k hlt,HA.out,HN.out];rfl⟩
     case measure=>simp[intOf];omega
    | false=>
     by_cases hd:48≤s[k].toNat∧s[k].toNat≤57
     ·obtain⟨d1,d2⟩:=hd
      have HN:Hid (iN s[k]=true):=by show _=_;simp[iN,jI,aD,d1,d2]
      clear hl
      go_wp2_with fail
      go_round
      case rel=>exact⟨k+1,by omega,by go_num,by show _=_;rw[di s k hlt,HA.out,HN.out];rfl⟩
      case measure=>simp[intOf];omega
     ·have hdg:aD s[k]=false:=dF hd
      have hco:=Oj s[k] hl hdg
      cases hn2:iN s[k] with
      | true=>
       have hx:=jY ⟨#[46,95,43,45,58,47,64]⟩ s[k] (by rw[hco,hn2])
       have HN:=ae hn2
       clear hl hco hn2 hdg IB
       by_cases d1:s[k].toNat<48
       ·clear hd
        go_wp2_with (go_at_call 68;refine(bt _ s[k] _).mono ?_;rintro e w' ⟨rfl,rfl⟩)
        go_round
        case rel=>exact⟨k+1,by omega,by go_num,by show _=_;rw[di s k hlt,HA.out,HN.out];rfl⟩
        case measure=>simp[intOf];omega
       ·have d2:57<s[k].toNat:=by omega
        clear hd
        go_wp2_with (go_at_call 68;refine(bt _ s[k] _).mono ?_;rintro e w' ⟨rfl,rfl⟩)
        go_round
        case rel=>exact⟨k+1,by omega,by go_num,by show _=_;rw[di s k hlt,HA.out,HN.out];rfl⟩
        case measure=>simp[intOf];omega
      | false=>
       have hx:=ju ⟨#[46,95,43,45,58,47,64]⟩ s[k] (by rw[hco,hn2])
       have E:Hid (eB (bl s)=false):=Aw s k hlt hn2
       clear hl hco hn2 hdg IB
       by_cases d1:s[k].toNat<48
       ·clear hd
        go_wp2_with (go_at_call 68;refine(bt _ s[k] _).mono ?_;rintro e w' ⟨rfl,rfl⟩)
        go_ret
        exact⟨am E.out.symm,rfl⟩
       ·have d2:57<s[k].toNat:=by omega
        clear hd
        go_wp2_with (go_at_call 68;refine(bt _ s[k] _).mono ?_;rintro e w' ⟨rfl,rfl⟩)
        go_ret
        exact⟨am E.out.symm,rfl⟩
   ·go_wp2_with fail
    go_ret
    exact⟨am (H9 s k hlt hp (by omega) HF.out HA.out).symm,rfl⟩
def aE (c:UInt8):LU→Bool
 | a::_=>a==c
 | []=>false
theorem lT {c:UInt8}{l:LU}(h:aE c l=true):l=c::l.drop 1:=by
 cases l with
 | nil=>simp[aE] at h
 | cons a r=>simp[aE] at h;simp[h]
theorem UQ {a:Nat}{b:Int}(h:(a:Int)≠b):((a:Int) != b)=true:=by simp[bne,h]
def UA:LU→Bool
 | c::_=>jI c
 | []=>false
theorem LH (l:LU):eB l=(decide (1≤l.length∧l.length≤64)&&UA l&&l.all iN):=by cases l<;>rfl
def fG (c:UInt8):Bool:=cD c||aD c||c==46||c==95||c==43||c==45||c==47||c==58
def qn (c:UInt8):Bool:=cD c||aD c||c==47
def up:LU→Bool
 | c::_=>qn c
 | []=>false
def dm (o:Option Nat)(c:UInt8):Option Nat:=match o with
 | none=>none
 | some n=>if c==40 then some (n+1) else if c==41 then (if n=0 then none else some (n-1)) else if fG c then some n else none
def fm (l:LU):Bool:=decide (1≤l.length∧l.length≤64)&&up l&&decide (l.foldl dm (some 0)=some 0)
theorem wz:∀ l:LU,l.foldl dm none=none
 | []=>rfl
 | _::r=>wz r
theorem wA {α:Type}(f:α→UInt8→α)(z:α)(s:BA)(k:Nat)(h:k<s.size):((bl s).take (k+1)).foldl f z=f (((bl s).take k).foldl f z) s[k]:=by
 rw[tS (by rw[af];exact h),List.foldl_append,gL s k h];rfl
theorem sU (s:BA)(k n:Nat)(h:k<s.size)(h0:((bl s).take k).foldl dm (some 0)=some n)(h1:dm (some n) s[k]=none):fm (bl s)=false:=by
 have h2:=wA dm (some 0) s k h
 rw[h0,h1] at h2
 have:(bl s).foldl dm (some 0)=none:=by
  rw[←List.take_append_drop (k+1) (bl s),List.foldl_append,h2,wz]
 unfold fm;rw[this];simp
theorem qo (s:BA)(k n m:Nat)(h:k<s.size)(h0:((bl s).take k).foldl dm (some 0)=some n)(h1:dm (some n) s[k]=some m):((bl s).take (k+1)).foldl dm (some 0)=some m:=by
 rw[wA dm (some 0) s k h,h0,h1]
theorem sV (s:BA)(k n:Nat)(h:¬ k<s.size)(h0:((bl s).take k).foldl dm (some 0)=some n)(h1:1≤s.size)(h2:s.size≤64)(h3:up (bl s)=true):fm (bl s)=decide (n=0):=by
 rw[tL (by rw[af];omega)] at h0
 unfold fm;rw[h0,h3,af,dT ⟨h1,h2⟩];simp
theorem qp (s:BA)(h:¬ (1≤s.size∧s.size≤64)):fm (bl s)=false:=by
 unfold fm;rw[af,dF h];rfl
theorem Ij (s:BA)(h:up (bl s)=false):fm (bl s)=false:=by
 unfold fm;rw[h];simp
theorem LI (s:BA)(h:0<s.size):up (bl s)=qn s[0]:=by rw[dZ s h];rfl
theorem wB (c:UInt8)(h1:cD c=false)(h2:aD c=false):(bl ⟨#[46,95,43,45,47,58]⟩).contains c=fG c:=by
 exact dV (fun c=>cD c||aD c||((bl ⟨#[46,95,43,45,47,58]⟩).contains c==fG c)) (by kernel_rfl) c |> fun hh=>by simpa [h1,h2] using hh
theorem cj (c:UInt8)(w:World):Calls Tryz.prog 210 #[.int .u8 c.toNat] w fun e w'=>e=.returned (.bool (cD c))∧w=w':=by
 go_enter Tryz.func210,Tryz.ntmps210
 go_wp2_with fail
 all_goals go_ret
 all_goals (refine⟨am ?_,rfl⟩;rw[bI];simp[cD,be,zw];omega)
theorem dP (c:UInt8)(w:World):Calls Tryz.prog 211 #[.int .u8 c.toNat] w fun e w'=>e=.returned (.bool (aD c))∧w=w':=by
 go_enter Tryz.func211,Tryz.ntmps211
 go_wp2_with fail
 all_goals go_ret
 all_goals (refine⟨am ?_,rfl⟩;rw[bI];simp[aD];omega)
theorem sX (s:BA)(w:World)(hs:s.size≤9223372036854775807):
  Calls Tryz.prog 140 #[.string s] w fun e w'=>e=.returned (.bool (eD (bl s)))∧w=w':=by
 have hb:=af s
 have HB:=ae hb;clear hb
 by_cases h3:s.size≤32
 ·go_enter Tryz.func140,Tryz.ntmps140
  go_wp2_with (go_at_call 45;refine(Am s _ _ hs).mono ?_;rintro e w' ⟨rfl,rfl⟩)
  go_ret
  exact⟨am (by unfold eD;rw[HB.out,dT h3];simp[bl]),rfl⟩
 ·go_enter Tryz.func140,Tryz.ntmps140
  go_wp2_with fail
  go_ret
  exact⟨am (by unfold eD;rw[HB.out,dF h3];simp),rfl⟩
end
end Go.Proofs.YtkjdbpjglobbjaaGreatDoor
