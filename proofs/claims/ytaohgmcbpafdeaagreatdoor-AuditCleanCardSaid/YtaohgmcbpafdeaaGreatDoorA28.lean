/- A part of the proof. -/
import Derived.Test.YtaohgmcbpafdeaaGreatDoorA14
import Derived.Test.YtaohgmcbpafdeaaGreatDoorA19
import Derived.Test.YtaohgmcbpafdeaaGreatDoorA24
set_option maxRecDepth 100000
set_option maxHeartbeats 20000000
set_option linter.unusedVariables false
set_option linter.unusedSimpArgs false
namespace Go.Proofs.YtaohgmcbpafdeaaGreatDoor
section
open Go.RowKit
theorem Lx (s p:BA)(w:World):Calls Tryz.prog 152 #[.string s,.string p] w fun e w'=>e=.returned (.tuple #[.string (bC (Lib.trimPrefix (bl s) (bl p))),.bool (Lib.hasPrefix (bl s) (bl p))])∧w=w':=
 (Tryz.strings_CutPrefix s p w).mono fun _ _ ⟨he,hw⟩=>⟨he,hw.symm⟩
theorem Pf (k:Nat)(hk:k<7)(x:Nat→BA)(w:World):(Instr.index 242 (.agg #[.string (x 0),.string (x 1),.string (x 2),.string (x 3),.string (x 4),.string (x 5),.string (x 6)]) (.int .i64 k)).run Tryz.prog w=.ok (.string (x k)) w:=by
 rcases(by omega:k=0∨k=1∨k=2∨k=3∨k=4∨k=5∨k=6) with rfl | rfl | rfl | rfl | rfl | rfl | rfl<;>kernel_rfl
theorem sJ (k:Nat)(hk:k<7):bl (nJ k)=ir k:=by
 rcases(by omega:k=0∨k=1∨k=2∨k=3∨k=4∨k=5∨k=6) with rfl | rfl | rfl | rfl | rfl | rfl | rfl<;>rfl
theorem FC {l:LU}{k:Nat}(h1:Lib.hasPrefix l (ir k)=true)(h2:(bC (Lib.trimPrefix l (ir k))).size<(bC (cq l k).2).size):cq l (k+1)=(k,Lib.trimPrefix l (ir k)):=by
 rw[bS,bS] at h2
 simp[cq,h1,h2]
theorem BM {l:LU}{k:Nat}(h2:¬ (bC (Lib.trimPrefix l (ir k))).size<(bC (cq l k).2).size):cq l (k+1)=cq l k:=by
 rw[bS,bS] at h2
 simp[cq,h2]
theorem IZ {l:LU}{k:Nat}(h1:Lib.hasPrefix l (ir k)=false):cq l (k+1)=cq l k:=by
 simp[cq,h1]
theorem DY (l p:LU):(Lib.trimPrefix l p).length≤l.length:=by
 unfold Lib.trimPrefix;split<;>simp
theorem sK (l:LU):∀ k,(cq l k).2.length≤l.length
 | 0=>Nat.le_refl _
 | k+1=>by
  unfold cq;split
  ·exact DY _ _
  ·exact sK l k
theorem uR (s:BA)(w:World)(hG:Gl w)(hs:s.size≤9223372036854775807):
  Calls Tryz.prog 201 #[.string s] w fun e w'=>e=.returned (.tuple #[.int .i64 (uJ (bl s)).1,.string (bC (uJ (bl s)).2)])∧w=w':=by
 have g0:=hG.asg 0 (by omega)
 have g1:=hG.asg 1 (by omega)
 have g2:=hG.asg 2 (by omega)
 have g3:=hG.asg 3 (by omega)
 have g4:=hG.asg 4 (by omega)
 have g5:=hG.asg 5 (by omega)
 have g6:=hG.asg 6 (by omega)
 clear hG
 go_enter Tryz.func201,Tryz.ntmps201
 go_wp2_with fail
 clear g0 g1 g2 g3 g4 g5 g6
 go_loop [4,5,12] (fun o b i=>∃ k:Nat,k≤7∧∃ (n:Nat) (B:BA),o=.int .i64 n∧b=.string B∧i=.int .i64 k∧Hid (cq (bl s) k=(n,bl B))) (fun _ _ i=>7-(intOf i).toNat)
 case atStart=>exact⟨0,by omega,0,s,rfl,rfl,rfl,rfl⟩
 case round=>
  obtain⟨k,hk,n,B,rfl,rfl,rfl,HR⟩:=hrel
  by_cases hlt:k<7
  ·have hix:=fun W=>Pf k hlt nJ W
   have hsg:=sJ k hlt
   obtain⟨T,hT⟩:∃ T,bC (Lib.trimPrefix (bl s) (ir k))=T:=⟨_,rfl⟩
   have hTz:T.size≤s.size:=by rw[←hT,bS,←ag];exact DY _ _
   have hBz:B.size≤s.size:=by rw[←ag,←ag,show bl B=(cq (bl s) k).2 by rw[HR.out]];exact sK _ _
   have hbT:bl T=Lib.trimPrefix (bl s) (ir k):=by rw[←hT,eh]
   have hmB:bC (cq (bl s) k).2=B:=by rw[HR.out];exact mA B
   cases hp:Lib.hasPrefix (bl s) (ir k) with
   | false=>
    have HN:=ae ((IZ hp).trans HR.out)
    clear hmB hbT
    go_wp2_with (go_at_call 152;refine(Lx _ _ _).mono ?_;rintro e w' ⟨rfl,rfl⟩;rw[hsg,hp,hT])
    go_round
    case rel=>exact⟨k+1,by omega,n,B,rfl,rfl,by go_num,HN⟩
    case measure=>simp[intOf];omega
   | true=>
    by_cases hl:T.size<B.size
    ·have HN:Hid (cq (bl s) (k+1)=(k,bl T)):=by show _=_;rw[FC hp (by rw[hT,hmB];exact hl),hbT]
     clear hmB hbT
     go_wp2_with (go_at_call 152;refine(Lx _ _ _).mono ?_;rintro e w' ⟨rfl,rfl⟩;rw[hsg,hp,hT])
     go_round
     case rel=>exact⟨k+1,by omega,k,T,rfl,rfl,by go_num,HN⟩
     case measure=>simp[intOf];omega
    ·have HN:=ae ((BM (by rw[hT,hmB];exact hl)).trans HR.out)
     clear hmB hbT
     go_wp2_with (go_at_call 152;refine(Lx _ _ _).mono ?_;rintro e w' ⟨rfl,rfl⟩;rw[hsg,hp,hT])
     go_round
     case rel=>exact⟨k+1,by omega,n,B,rfl,rfl,by go_num,HN⟩
     case measure=>simp[intOf];omega
  ·have E:Hid (uJ (bl s)=(n,bl B)):=by show _=_;rw[←vG,←HR.out];congr 1;omega
   go_wp2_with fail
   go_ret2
   exact⟨by rw[E.out,mA];rfl,rfl⟩
end
section
open Go.RowKit Go.Deep
theorem Ly (c:UInt8):(bl ge).contains c=Fr c:=by
 have:=jI (fun c=>(bl ge).contains c==Fr c) (by kernel_rfl) c
 simpa using this
theorem vL:∀ l:LU,(0≤Lib.indexAny l (bl ge)→Lib.indexAny l (bl ge)=aA kB l)∧(Lib.indexAny l (bl ge)<0→aA kB l=l.length)
 | []=>⟨fun h=>by simp[Lib.indexAny] at h,fun _=>rfl⟩
 | b::l=>by
  obtain⟨h1,h2⟩:=vL l
  have hge:=Lib.indexAny_ge (bl ge) l
  unfold Lib.indexAny
  rw[Ly]
  cases hb:Fr b with
  | true=>exact⟨fun _=>by simp[aA,kB,hb],fun h=>by simp at h⟩
  | false=>
   have hr:aA kB (b::l)=aA kB l+1:=gH (by simp[kB,hb])
   rw[hr]
   simp only[Bool.false_eq_true,if_false,beq_iff_eq]
   split
   ·rename_i h;exact⟨fun h=>by simp at h,fun _=>by rw[h2 (by omega)];rfl⟩
   ·rename_i h;exact⟨fun _=>by rw[h1 (by omega)];push_cast;rfl,fun hh=>by omega⟩
theorem zo (l:LU):Lib.hasPrefix l [33]=ay 33 l:=by
 cases l with
 | nil=>rfl
 | cons a r=>rw[ld];simp only[ay];rw[Bool.beq_comm]
theorem vM (l:LU):Lib.trimPrefix l [33]=bU l:=by
 unfold Lib.trimPrefix bU
 rw[zo];rfl
theorem I0 (l:LU):(bU l).length≤l.length:=by unfold bU;split<;>simp
theorem Lz (l:LU):(uJ l).2.length≤l.length:=by rw[←vG];exact sK l 7
def fF.val (x:fF):Value:=.agg #[.bool x.no,.string (bC x.name),.int .i64 x.op,.string (bC x.ver)]
def vN:Value:=.agg #[.bool false,.string ⟨#[]⟩,.int .i64 0,.string ⟨#[]⟩]
def eT:LV:=[.bool false,.string ⟨#[]⟩,.int .i64 0,.string ⟨#[]⟩]
def I8 (r:Option fF)(w:World)(e:Ending)(w':World):Prop:=
 (match r with
  | some x=>e=.returned (.tuple #[x.val,.nilIface])
  | none=>∃ a c:Int,c≠0∧e=.returned (.tuple #[vN,.iface 274 (.agg #[.int .i64 a,.int .i64 c])]))∧Below w.heap.size w w'
theorem BN (s:BA)(w:World)(hG:Gl w)(hs:s.size≤4294967280):
  Calls Tryz.prog 164 #[.string s] w (I8 (gg (bl s)) w):=by
 have HG:=ae hG;clear hG
 obtain⟨R,hR⟩:∃ R,bC (bU (bl s))=R:=⟨_,rfl⟩
 have hRb:bl R=bU (bl s):=by rw[←hR,eh]
 have hRz:R.size≤s.size:=by rw[←ag,←ag,hRb];exact I0 _
 obtain⟨n,hn⟩:∃ n,aA kB (bl R)=n:=⟨_,rfl⟩
 have hnz:n≤R.size:=by rw[←hn,←ag];exact fh _ _
 obtain⟨i1,i2⟩:=vL (bl R)
 rw[hn] at i1 i2
 rw[ag] at i2
 have hcp:=fun W=>Lx s ⟨#[33]⟩ W
 have e33:bl ⟨#[33]⟩=[33]:=rfl
 rw[e33,vM,zo,hR] at hcp
 generalize hq:ay 33 (bl s)=q at hcp
 go_enter Tryz.func164,Tryz.ntmps164
 go_wp2_with fail
 refine(hcp _).mono ?_;rintro e w' ⟨rfl,rfl⟩
 go_wp2_with fail
 refine(wX R _ (by omega)).mono ?_;rintro e w1 ⟨rfl,hb1⟩
 generalize Lib.indexAny (bl R) (bl ge)=ia at i1 i2
 have BB:Hid (Below w.heap.size w w1):=((bR.alloc lr _).alloc (by simp) _).trans (hb1.mono (by simp;omega))
 have KA:Hid (ax w1 w.heap.size eT):=((ax.new w eT _).alloc _).below hb1
 have KB:Hid (ax w1 (w.heap.size+1) [.bool q,.string ⟨#[]⟩,.int .i64 0,.string ⟨#[]⟩]):=(by have:=ax.new (w.alloc (.cells #[.bool false,.string ⟨#[]⟩,.int .i64 0,.string ⟨#[]⟩] 235)) [.bool q,.string ⟨#[]⟩,.int .i64 0,.string ⟨#[]⟩] 235;simpa using this:ax _ (w.heap.size+1) _).below hb1
 clear hb1
 go_upto_if 19 with(fail)
 go_cut [7] (fun v wx=>v=.int .i64 n∧w1=wx)
 case first=>
  by_cases hia:0≤ia
  ·have e1:=i1 hia
   have hia2:¬ ia<0:=by omega
   clear i1 i2
   go_wp2_with fail
   go_meet
   exact⟨rfl,rfl⟩
  ·have hia2:ia<0:=by omega
   have e1:=i2 hia2
   clear i1 i2 hia
   go_wp2_with fail
   go_meet
   exact⟨by rw[e1],rfl⟩
 case rest=>
 obtain⟨rfl,rfl⟩:=hcut
 clear i1 i2
 have hnz2:(n:Int)≤(R.size:Int):=by omega
 have c1:=KB.out.cell 1 _ rfl
 have fc1:=KB.out.free 1 (by simp)
 obtain⟨P,hP⟩:∃ P,R.extract 0 n=P:=⟨_,rfl⟩
 obtain⟨T,hT⟩:∃ T,R.extract n R.size=T:=⟨_,rfl⟩
 have hPb:bl P=(bl R).take n:=by rw[←hP,dw]
 have hTb:bl T=(bl R).drop n:=by rw[←hT,cv]
 have hPz:P.size=n:=by rw[←ag,hPb,List.length_take,ag];omega
 have hTz:T.size=R.size-n:=by rw[←ag,hTb,List.length_drop,ag]
 have WA:Hid (gg (bl s)=if cV (bl P) then ze q (bl P) (bl T) else none):=by
  show _=_;unfold gg;rw[←hRb,hn,hq,←hPb,←hTb]
 clear hPb hTb hRb hn hq hR hcp e33
 go_wp2_with fail
 go_region
 clear c1 fc1
 have c1:=(KB.out.set 1 (by simp) (.string P)).drew.cell 1 _ rfl
 go_wp2_with fail
 refine(oY P _ (by omega)).mono ?_;rintro e w2 ⟨rfl,hw⟩
 have KA2:Hid (ax w2 w.heap.size eT):=by rw[←hw];exact(KA.out.far (by omega) _).drew
 have KB2:Hid (ax w2 (w.heap.size+1) [.bool q,.string P,.int .i64 0,.string ⟨#[]⟩]):=by rw[←hw];exact(KB.out.set 1 (by simp) (.string P)).drew
 have BB2:Hid (Below w.heap.size w w2):=by rw[←hw];exact(ak BB.out (by omega) _).drew
 clear hw c1 hP hT
 cases hnm:cV (bl P) with
 | false=>
  have E:Hid (gg (bl s)=none):=by show _=_;rw[WA.out,hnm];rfl
  clear hnm
  have a0:=KA2.out.cell 0 _ rfl
  have fa0:=KA2.out.free 0 (by simp[eT])
  have a1:=KA2.out.cell 1 _ rfl
  have fa1:=KA2.out.free 1 (by simp[eT])
  have a2:=KA2.out.cell 2 _ rfl
  have fa2:=KA2.out.free 2 (by simp[eT])
  have a3:=KA2.out.cell 3 _ rfl
  have fa3:=KA2.out.free 3 (by simp[eT])
  go_wp2_with fail
  refine bodyPost_ret (v:=.tuple #[vN,.iface 274 (.agg #[.int .i64 _,.int .i64 10])]) (by simp[results,Tryz.results164,go_sem,vN,a0,a1,a2,a3];rfl) rfl ?_
  refine⟨by rw[E.out];exact⟨_,10,by decide,rfl⟩,?_⟩
  exact ak (ak (ak (ak BB2.out lr _) lr _) lr _) lr _
 | true=>
  have E1:Hid (gg (bl s)=ze q (bl P) (bl T)):=by show _=_;rw[WA.out,hnm];rfl
  clear hnm
  by_cases hT0:T.size=0
  ·have he:T.toList=[]:=by rw[ah,bG T hT0]
   have he2:T.toList.isEmpty=true:=by rw[he];rfl
   have E:Hid (gg (bl s)=some ⟨q,bl P,0,[]⟩):=by show _=_;rw[E1.out,bG T hT0];rfl
   have a0:=KA2.out.cell 0 _ rfl
   have fa0:=KA2.out.free 0 (by simp[eT])
   have a1:=KA2.out.cell 1 _ rfl
   have fa1:=KA2.out.free 1 (by simp[eT])
   have a2:=KA2.out.cell 2 _ rfl
   have fa2:=KA2.out.free 2 (by simp[eT])
   have a3:=KA2.out.cell 3 _ rfl
   have fa3:=KA2.out.free 3 (by simp[eT])
   have c0:=KB2.out.cell 0 _ rfl
   have fc0:=KB2.out.free 0 (by simp)
   have c1:=KB2.out.cell 1 _ rfl
   have fc1:=KB2.out.free 1 (by simp)
   have c2:=KB2.out.cell 2 _ rfl
   have fc2:=KB2.out.free 2 (by simp)
   have c3:=KB2.out.cell 3 _ rfl
   have fc3:=KB2.out.free 3 (by simp)
   go_wp2_with fail
   refine bodyPost_ret (v:=.tuple #[.agg #[.bool q,.string P,.int .i64 0,.string ⟨#[]⟩],.nilIface]) (by simp[results,Tryz.results164,go_sem,a0,a1,a2,a3]) rfl ?_
   refine⟨by rw[E.out];simp only[fF.val,mA];rfl,?_⟩
   exact ak (ak (ak (ak BB2.out lr _) lr _) lr _) lr _
  ·have he2:T.toList.isEmpty=false:=by rw[ah,aT];exact dF hT0
   have he:¬ T.toList=[]:=by intro h;rw[h] at he2;simp at he2
   go_wp2_with fail
   refine(uR T _ (HG.out.below BB2.out) (by omega)).mono ?_;rintro e w3 ⟨rfl,rfl⟩
   obtain⟨V,hV⟩:∃ V,bC (uJ (bl T)).2=V:=⟨_,rfl⟩
   have hVz:V.size≤T.size:=by rw[←hV,bS,←ag];exact Lz _
   have E2:Hid (gg (bl s)=if cG 3 V=0 then some ⟨q,bl P,(uJ (bl T)).1,bl V⟩ else none):=by
    show _=_;rw[E1.out];unfold ze;rw[hV,if_neg (by rw[aT];simpa using hT0),←hV,eh]
   generalize (uJ (bl T)).1=o at E2
   have c0:=KB2.out.cell 0 _ rfl
   have fc0:=KB2.out.free 0 (by simp)
   have c1:=KB2.out.cell 1 _ rfl
   have fc1:=KB2.out.free 1 (by simp)
   have c2:=KB2.out.cell 2 _ rfl
   have fc2:=KB2.out.free 2 (by simp)
   have c3:=KB2.out.cell 3 _ rfl
   have fc3:=KB2.out.free 3 (by simp)
   go_wp2_with fail
   have B3:=ae ((ak (j:=3) (ak (j:=2) BB2.out (Nat.le_succ _) (.int .i64 o)) (Nat.le_succ _) (.string V)))
   refine(aQ 3 V _ (HG.out.below (by exact B3.out)) (by omega)).mono ?_;rintro e w4 ⟨rfl,hb4⟩
   have KA4:Hid (ax w4 w.heap.size eT):=((KA2.out.far (by omega) _).far (by omega) _).below hb4
   have KB4:Hid (ax w4 (w.heap.size+1) [.bool q,.string P,.int .i64 o,.string V]):=((KB2.out.set 2 (by simp) (.int .i64 o)).set 3 (by simp) (.string V)).below hb4
   have BB4:Hid (Below w.heap.size w w4):=aq B3.out hb4
   clear hb4
   clear c0 fc0 c1 fc1 c2 fc2 c3 fc3
   have a0:=KA4.out.cell 0 _ rfl
   have fa0:=KA4.out.free 0 (by simp[eT])
   have a1:=KA4.out.cell 1 _ rfl
   have fa1:=KA4.out.free 1 (by simp[eT])
   have a2:=KA4.out.cell 2 _ rfl
   have fa2:=KA4.out.free 2 (by simp[eT])
   have a3:=KA4.out.cell 3 _ rfl
   have fa3:=KA4.out.free 3 (by simp[eT])
   have c0:=KB4.out.cell 0 _ rfl
   have fc0:=KB4.out.free 0 (by simp)
   have c1:=KB4.out.cell 1 _ rfl
   have fc1:=KB4.out.free 1 (by simp)
   have c2:=KB4.out.cell 2 _ rfl
   have fc2:=KB4.out.free 2 (by simp)
   have c3:=KB4.out.cell 3 _ rfl
   have fc3:=KB4.out.free 3 (by simp)
   by_cases hv:cG 3 V=0
   ·have E:Hid (gg (bl s)=some ⟨q,bl P,o,bl V⟩):=by show _=_;rw[E2.out,if_pos hv]
    have hv2:(cG 3 V != 0)=false:=by simp[hv]
    clear hv
    go_wp2_with fail
    refine bodyPost_ret (v:=.tuple #[.agg #[.bool q,.string P,.int .i64 o,.string V],.nilIface]) (by simp[results,Tryz.results164,go_sem,a0,a1,a2,a3]) rfl ?_
    refine⟨by rw[E.out];simp only[fF.val,mA],?_⟩
    exact ak (ak (ak (ak BB4.out lr _) lr _) lr _) lr _
   ·have E:Hid (gg (bl s)=none):=by show _=_;rw[E2.out,if_neg hv]
    have hv2:(cG 3 V != 0)=true:=by simp[hv]
    have HV:=uD.mk hv
    clear hv
    go_wp2_with fail
    go_region
    go_wp2_with fail
    refine bodyPost_ret (v:=.tuple #[vN,.iface 274 (.agg #[.int .i64 _,.int .i64 (cG 3 V)])]) (by simp[results,Tryz.results164,go_sem,vN,a0,a1,a2,a3];rfl) rfl ?_
    refine⟨by rw[E.out];exact⟨_,_,HV.out,rfl⟩,?_⟩
    exact(ak (ak (ak (ak BB4.out lr _) lr _) lr _) lr _).drew
theorem FS:(Tryz.prog.info? 235).map (fun i=>(i.zero,i.size,i.bytes))=some (some (.agg #[.bool false,.string ⟨#[]⟩,.int .i64 0,.string ⟨#[]⟩]),4,48):=by kernel_rfl
structure uS (w wr:World) (L:List fF) (A:OA) (n c:Nat):Prop where
 len:L.length=n
 row:wr.ownsRow (w.heap.size+1) 235 4 (.slice A n c) n (L.flatMap fF.cells)
 ret:ax wr w.heap.size [.string ⟨#[]⟩,.int .i64 0,.int .i64 0]
 bel:Below w.heap.size w wr
theorem uS.below {w wr w':World}{L:List fF}{A:OA}{n c:Nat}(h:uS w wr L A n c)(hb:Below wr.heap.size wr w'):uS w w' L A n c:=
 ⟨h.len,cR h.row hb,h.ret.below hb,aq h.bel hb⟩
theorem uS.start (w:World):uS w (w.alloc (.cells #[.string ⟨#[]⟩,.int .i64 0,.int .i64 0] 172)) [] none 0 0:=
 ⟨rfl,World.ownsRow_nil _ _ _ _,ax.new w _ _,bR.alloc lr _⟩
theorem uS.grow {w wr w2:World}{L:List fF}{A A1:OA}{n c c1:Nat}{o1 o2:Obj}{x:fF}(h:uS w wr L A n c)
  (hr:w2.ownsRow (w.heap.size+1) 235 4 (.slice A1 (n+1) c1) (n+1) (L.flatMap fF.cells++x.cells))
  (hg:((wr.alloc o1).alloc o2).grownBy w2 (Value.slice A n c).ownBlock):uS w w2 (L++[x]) A1 (n+1) c1:=by
 have hb:=h.bel.size
 have hB:Below w.heap.size w ((wr.alloc o1).alloc o2):=(h.bel.alloc h.bel.size o1).alloc (by simp;omega) o2
 have hR:ax ((wr.alloc o1).alloc o2) w.heap.size [.string ⟨#[]⟩,.int .i64 0,.int .i64 0]:=(h.ret.alloc o1).alloc o2
 refine⟨by simp[h.len],by rw[List.flatMap_append];simpa using hr,?_,?_⟩
 ·have hk:w2.heap[w.heap.size]?=((wr.alloc o1).alloc o2).heap[w.heap.size]?:=hg.block _ hR.sz (by intro e;have:=(h.row.lt _ e.symm).1;omega)
  refine⟨Nat.lt_of_lt_of_le hR.sz hg.size,fun j u hu=>?_,fun j hj=>?_⟩
  ·exact(World.cell?_of_block (a:=⟨w.heap.size,j,none⟩) hk).trans (hR.cell j u hu)
  ·exact(World.frozen?_of_block (a:=⟨w.heap.size,j,none⟩) hk).trans (hR.free j hj)
 ·exact hB.grown hg hB.size (fun j hj=>by have:=(h.row.lt j hj).1;omega)
def Cd (r:Option (List fF))(w:World)(e:Ending)(w':World):Prop:=
 ∃ (A:OA) (n c:Nat) (f:BA) (a code:Int),e=.returned (.tuple #[.slice A n c,ec f a code])∧Below w.heap.size w w' ∧
  (match r with
   | some L=>code=0∧n=L.length∧w'.ownsRow w.heap.size 235 4 (.slice A n c) n (L.flatMap fF.cells)
   | none=>code≠0∧A=none∧n=0)
theorem Ce (w:World)(t:TypeId)(a b c d:Value):iF (w.alloc (.cells #[a,b,c,d] t)) (w.heap.size+1) 4 (some ⟨w.heap.size,0,none⟩) 1 [a,b,c,d]:=by
 refine⟨rfl,fun _=>⟨_,rfl,by simp,fun j u hu=>?_⟩⟩
 match j,hu with
 | 0,hu=>simp at hu;subst hu;simp[Addr.add]
 | 1,hu=>simp at hu;subst hu;simp[Addr.add]
 | 2,hu=>simp at hu;subst hu;simp[Addr.add]
 | 3,hu=>simp at hu;subst hu;simp[Addr.add]
 | j+4,hu=>simp at hu
theorem LE (l:LU):(Lib.cut l [32]).1=l.take (aA dp l):=by
 by_cases h:aA dp l<l.length
 ·obtain⟨a,r,hd,ha⟩:=lQ l h
  have ha:a=32:=by simpa [dp] using ha
  subst ha
  have h1:l[aA dp l]?=some 32:=by
   have:=congrArg (fun x=>x[0]?) hd
   simpa [List.getElem?_drop] using this
  have h0:(l.take (aA dp l)).contains 32=false:=by
   cases hc:(l.take (aA dp l)).contains 32 with
   | false=>rfl
   | true=>
    have hm:(32:UInt8)∈l.take (aA dp l):=by simpa using hc
    have:l.take (aA dp l)=l.takeWhile dp:=by unfold aA;exact(List.prefix_iff_eq_take.1 (List.takeWhile_prefix _)).symm
    rw[this] at hm
    have:=List.all_eq_true.1 (List.all_takeWhile (p:=dp) (l:=l)) 32 hm
    simp[dp] at this
  rw[Nb l _ h0 h1]
 ·have hl:=fh dp l
  have he:aA dp l=l.length:=by omega
  have hc:l.contains 32=false:=by
   cases hc:l.contains 32 with
   | false=>rfl
   | true=>
    have hm:(32:UInt8)∈l:=by simpa using hc
    have:l.takeWhile dp=l:=by
     have:=List.prefix_iff_eq_take.1 (List.takeWhile_prefix (p:=dp) (l:=l))
     rw[this];exact tL (by unfold aA at he;omega)
    rw[←this] at hm
    have:=List.all_eq_true.1 (List.all_takeWhile (p:=dp) (l:=l)) 32 hm
    simp[dp] at this
  rw[IT l hc,he,List.take_length]
end
section
open Go.RowKit
theorem vO {fmt:Int}{s:BA}(h:cG fmt s=0):s.size≤64:=by
 unfold cG at h
 split at h
 ·simp at h
 ·split at h
  ·simp at h
  ·omega
theorem FU {l:LU}(h:cV l=true):l.length≤64:=by
 rw[Fz] at h;simp at h;omega
theorem fF.right.sizes {x:fF}(h:x.right):x.name.length≤64∧x.ver.length≤64:=by
 obtain⟨h1,h2,h3,h4⟩:=h
 refine⟨FU h1,?_⟩
 by_cases o0:x.op=0
 ·rw[h3 o0];simp
 ·have:=vO (h4 (by omega));rw[bS] at this;exact this
theorem Cg (x:fF)(hx:x.right)(w:World)(hG:Gl w):
  Calls Tryz.prog 203 #[.agg #[.string (bC x.name),.int .i64 x.op,.string (bC x.ver)]] w fun e w'=>e=.returned (.int .i64 0)∧Below w.heap.size w w':=by
 obtain⟨z1,z2⟩:=hx.sizes
 obtain⟨h1,h2,h3,h4⟩:=hx
 have HG:=ae hG;clear hG
 have hn:cV (bl (bC x.name))=true:=by rw[eh];exact h1
 have s1:(bC x.name).size≤64:=by rw[bS];exact z1
 have s2:(bC x.ver).size≤64:=by rw[bS];exact z2
 have hN:=fun W=>oY (bC x.name) W (by omega)
 rw[hn] at hN
 clear hn h1 z1 z2
 generalize bC x.name=N at *
 by_cases o0:x.op=0
 ·have hv:bC x.ver=⟨#[]⟩:=by rw[h3 o0];rfl
  rw[hv,o0]
  clear h2 h3 h4 s2 hv o0
  go_enter Tryz.func203,Tryz.ntmps203
  go_wp2_with fail
  refine(hN _).mono ?_;rintro e w' ⟨rfl,rfl⟩
  go_wp2_with fail
  go_ret
  exact⟨rfl,bR.alloc lr _⟩
 ·have hv:=h4 (by omega)
  have o1:decide ((x.op:Int)<0)=false:=dF (by omega)
  have o2:decide ((6:Int)<(x.op:Int))=false:=dF (by omega)
  have o3:((x.op:Int)==0)=false:=by simp;omega
  have hC:=fun W hW=>aQ 3 (bC x.ver) W hW (by omega)
  rw[hv] at hC
  clear h2 h3 h4 hv
  generalize bC x.ver=V at *
  go_enter Tryz.func203,Tryz.ntmps203
  go_wp2_with fail
  refine(hN _).mono ?_;rintro e w' ⟨rfl,rfl⟩
  go_wp2_with fail
  refine(hC _ (HG.out.alloc _)).mono ?_;rintro e w1 ⟨rfl,hb1⟩
  go_wp2_with fail
  go_ret
  exact⟨rfl,(bR.alloc lr _).trans (hb1.mono (by simp))⟩
theorem Ch (A:OA)(c:Nat)(L:List fF)(hL:∀ x∈L,x.right)(h64:L.length≤64)(w:World)(hG:Gl w)(hr:Rd w 4 A L.length (L.flatMap fF.cells)):
  Calls Tryz.prog 166 #[.slice A L.length c] w fun e w'=>e=.returned (.int .i64 0)∧Below w.heap.size w w':=by
 have HG:=ae hG;have HR:=ae hr;have HL:=ae hL
 clear hG hr hL
 go_enter Tryz.func166,Tryz.ntmps166
 go_wp2_with fail
 go_loopw [11] (fun i wr=>∃ k:Nat,k≤L.length∧i=.int .i64 k∧Hid (Below w.heap.size w wr)) (fun i _=>L.length-(intOf i).toNat)
 case atStart=>exact⟨0,z0,rfl,bR⟩
 case round=>
  obtain⟨k,hk,rfl,HB⟩:=hrel
  by_cases hlt:k<L.length
  ·obtain⟨x,hx⟩:∃ x,L[k]?=some x:=⟨_,gG hlt⟩
   obtain⟨b,off,hA,he⟩:=(HR.out.below HB.out).elem DU k x hx
   have e0:=he 0 _ rfl
   have e1:=he 1 _ rfl
   have e2:=he 2 _ rfl
   have e3:=he 3 _ rfl
   simp only[Nat.add_zero] at e0
   have hix:=fun W=>aI (T:=183) (E:=235) (sz:=4) (c:=c) Tryz.underlying183 rfl Tryz.sizeOf235 hA hlt W
   have HX:=ae (HL.out x (gM hx))
   clear hx he hA
   go_wp2_with fail
   have B1:=ae (HB.out.alloc HB.out.size (.cells #[.bool x.no,.string (bC x.name),.int .i64 x.op,.string (bC x.ver)] 235))
   refine(Cg x HX.out _ (HG.out.below B1.out)).mono ?_;rintro e w1 ⟨rfl,hb1⟩
   have B2:Hid (Below w.heap.size w w1):=aq B1.out hb1
   clear hb1 e0 e1 e2 e3 hix
   go_wp2_with fail
   go_roundw
   case rel=>exact⟨k+1,by omega,by go_num,B2⟩
   case measure=>simp[intOf];omega
  ·go_wp2_with fail
   go_ret
   exact⟨rfl,HB.out⟩
theorem ox (A:OA)(c:Nat)(xs:List BA)(sep:BA)(w:World)(hr:Rd w 1 A xs.length (az xs))(hc:xs.length≤c)(hn:xs.length≤140737488355328)(hlen:(Lib.join (xs.map bl) (bl sep)).length≤140737488355328):
  Calls Tryz.prog 158 #[.slice A xs.length c,.string sep] w fun e w'=>e=.returned (.string (bC (Lib.join (xs.map bl) (bl sep))))∧Below w.heap.size w w':=by
 by_cases h0:xs.length=0
 ·have:xs=[]:=List.length_eq_zero_iff.1 h0
  subst this
  exact(Tryz.strings_Join_none A c sep w).mono fun _ _ ⟨he,hw⟩=>⟨he,by rw[hw];exact bR⟩
 ·obtain⟨b,off,rfl,hcell⟩:=hr.2 (by omega)
  have hb:b<w.heap.size:=by
   have h1:=hcell 0 (.string xs[0]) (by simp[az])
   exact World.block_lt_of_cell? _ _ h1
  exact(Tryz.strings_Join b off c xs sep w (fun j x hx=>hcell j _ (by simp[az,hx])) hb hn hc hlen).mono fun _ _ ⟨he,hw⟩=>⟨he,hw⟩
end
section
open Go.RowKit Go.Deep
structure mY (w wr:World) (xs:List BA) (A:OA) (n c:Nat):Prop where
 len:xs.length=n
 row:wr.ownsRow w.heap.size 9 1 (.slice A n c) n (az xs)
 bel:Below w.heap.size w wr
theorem mY.below {w wr w':World}{xs:List BA}{A:OA}{n c:Nat}(h:mY w wr xs A n c)(hb:Below wr.heap.size wr w'):mY w w' xs A n c:=
 ⟨h.len,cR h.row hb,aq h.bel hb⟩
theorem mY.nil (w:World):mY w w [] none 0 0:=⟨rfl,World.ownsRow_nil _ _ _ _,bR⟩
theorem mY.grow {w wr w2:World}{xs:List BA}{A A1:OA}{n c c1:Nat}{o:Obj}{x:BA}(h:mY w wr xs A n c)
  (hr:w2.ownsRow w.heap.size 9 1 (.slice A1 (n+1) c1) (n+1) (az xs++[.string x]))
  (hg:(wr.alloc o).grownBy w2 (Value.slice A n c).ownBlock):mY w w2 (xs++[x]) A1 (n+1) c1:=by
 refine⟨by simp[h.len],by rw[show az (xs++[x])=az xs++[.string x] by simp[az]];exact hr,?_⟩
 exact(h.bel.alloc h.bel.size o).grown hg (by have:=h.bel.size;simp;omega) (fun j hj=>by have:=(h.row.lt j hj).1;omega)
theorem fv (w:World)(t:TypeId)(a:Value):iF (w.alloc (.cells #[a] t)) (w.heap.size+1) 1 (some ⟨w.heap.size,0,none⟩) 1 [a]:=by
 refine⟨rfl,fun _=>⟨_,rfl,by simp,fun j u hu=>?_⟩⟩
 match j,hu with
 | 0,hu=>simp at hu;subst hu;simp[Addr.add]
 | j+1,hu=>simp at hu
theorem ll {w:World}{base:Nat}{e:TypeId}{size n c:Nat}{A:OA}{xs:LV}(h:w.ownsRow base e size (.slice A n c) n xs):n≤c:=by
 rcases h.2 with⟨h0,h1⟩ | ⟨g,cap,cur,hv,_,_,h2,_⟩
 ·omega
 ·injection hv with _ _ h3;omega
theorem lS (sep:LU)(b:Nat):∀ (l:List (LU)),(∀ x∈l,x.length≤b)→(Lib.join l sep).length≤l.length*(b+sep.length)
 | [],_=>by simp[Lib.join,List.intercalate]
 | [a],h=>by have:=h a (by simp);simp[Lib.join,List.intercalate];omega
 | a::c::r,h=>by
  have h1:=h a (by simp)
  have ih:=lS sep b (c::r) (fun x hx=>h x (by simp at hx ⊢;exact .inr hx))
  have e:Lib.join (a::c::r) sep=a++sep++Lib.join (c::r) sep:=by simp[Lib.join,List.intercalate,List.intersperse]
  rw[e,List.length_append,List.length_append,List.length_cons,Nat.succ_mul]
  omega
theorem fF.text_eq (x:fF)(hx:x.right):bl (if x.no then (⟨#[33]⟩:BA)++(bC x.name++nJ x.op++bC x.ver) else bC x.name++nJ x.op++bC x.ver)=x.text:=by
 have h7:x.op<7:=by have:=hx.2.1;omega
 unfold fF.text
 cases x.no with
 | true=>simp[cj,eh,sJ x.op h7];rfl
 | false=>simp[cj,eh,sJ x.op h7]
theorem xx (k:Nat):(ir k).length≤2:=by unfold ir;split<;>simp
theorem fF.text_len (x:fF)(hx:x.right):x.text.length≤131:=by
 obtain⟨z1,z2⟩:=hx.sizes
 have:=xx x.op
 unfold fF.text;cases x.no<;>simp<;>omega
theorem sS (A:OA)(c:Nat)(L:List fF)(hL:∀ x∈L,x.right)(h64:L.length≤64)(w:World)(hG:Gl w)(hr:Rd w 4 A L.length (L.flatMap fF.cells)):
  Calls Tryz.prog 116 #[.slice A L.length c] w fun e w'=>e=.returned (.tuple #[.string (bC (vE L)),.int .i64 0])∧Below w.heap.size w w':=by
 obtain⟨i0,hi0,hz0,hz1,hz2⟩:=info_parts jD
 have HG:=ae hG;have HR:=ae hr;have HL:=ae hL
 clear hG hr hL
 go_enter Tryz.func116,Tryz.ntmps116
 go_wp2_with fail
 refine(Ch A c L HL.out h64 w HG.out HR.out).mono ?_;rintro e w0 ⟨rfl,hb0⟩
 have HB0:=ae hb0;clear hb0
 go_wp2_with fail
 go_loopw [5,16] (fun l i wr=>∃ (k:Nat) (xs:List BA) (B:OA) (cc:Nat),k≤L.length∧l=.slice B k cc∧i=.int .i64 k∧Hid (mY w0 wr xs B k cc)∧Hid (xs.map bl=(L.take k).map fF.text)) (fun _ i _=>L.length-(intOf i).toNat)
 case atStart=>exact⟨0,[],none,0,z0,rfl,rfl,mY.nil w0,rfl⟩
 case round=>
  obtain⟨k,xs,B,cc,hk,rfl,rfl,HS,HT⟩:=hrel
  by_cases hlt:k<L.length
  ·obtain⟨x,hx⟩:∃ x,L[k]?=some x:=⟨_,gG hlt⟩
   obtain⟨b,off,hA,he⟩:=(HR.out.below (aq HB0.out HS.out.bel)).elem DU k x hx
   have e0:=he 0 _ rfl
   have e1:=he 1 _ rfl
   have e2:=he 2 _ rfl
   have e3:=he 3 _ rfl
   simp only[Nat.add_zero] at e0
   have hix:=fun W=>aI (T:=183) (E:=235) (sz:=4) (c:=c) Tryz.underlying183 rfl Tryz.sizeOf235 hA hlt W
   have HX:=ae (HL.out x (gM hx))
   have h7:x.op<7:=by have:=HX.out.2.1;omega
   have TK:Hid ((L.take (k+1)).map fF.text=(L.take k).map fF.text++[x.text]):=by
    show _=_;obtain⟨hk',hf'⟩:=gS hx;rw[tS hk',hf'];simp
   clear hx he hA
   have K0:Hid (ax (wr.alloc (.cells #[.bool x.no,.string (bC x.name),.int .i64 x.op,.string (bC x.ver)] 235)) wr.heap.size x.cells):=ax.new wr x.cells _
   have hsg:=(HG.out.below (aq (aq HB0.out HS.out.bel) (bR.alloc lr (.cells #[.bool x.no,.string (bC x.name),.int .i64 x.op,.string (bC x.ver)] 235)))).asg x.op h7
   have S0:=ae (HS.out.below (bR.alloc lr (.cells #[.bool x.no,.string (bC x.name),.int .i64 x.op,.string (bC x.ver)] 235)))
   have s1:(bC x.name).size≤64:=by rw[bS];exact HX.out.sizes.1
   have s2:(bC x.ver).size≤64:=by rw[bS];exact HX.out.sizes.2
   have s3:(nJ x.op).size≤2:=by rw[←ag,sJ x.op h7];exact xx _
   go_upto_region 8 with(fail)
   go_cut [8] (fun v wx=>v=.string (bC x.name++nJ x.op++bC x.ver)∧Hid (mY w0 wx xs B k cc)∧Hid (ax wx wr.heap.size x.cells))
   case first=>
    go_quiet (fail)
    go_wp2_with fail
    go_meet
    exact⟨rfl,S0.out.below ⟨rfl,rfl,rfl,lr,fun _ _=>rfl⟩,K0.out.drewN _⟩
   case rest=>
   obtain⟨rfl,S1,K1⟩:=hcut
   clear e0 e1 e2 e3 hix hsg S0 K0
   have c0:=K1.out.cell 0 _ rfl
   have TX:=ae (x.text_eq HX.out)
   have hYz:(bC x.name++nJ x.op++bC x.ver).size≤130:=by
    have h1:=HX.out.sizes;have h2:=xx x.op
    rw[←ag,cj,cj,eh,eh,sJ x.op h7];simp;omega
   generalize bC x.name++nJ x.op++bC x.ver=Y at *
   cases hno:x.no with
   | false=>
    rw[hno] at c0 TX
    have HTX:Hid (bl Y=x.text):=TX.out
    clear TX hno
    go_wp2_with (at_builtin;refine aD _ rfl _ _ _ rfl w0.heap.size 9 i0 _ 1 16 Tryz.underlying26 hi0 hz0 hz1 hz2 rfl (by omega) (.slice B k cc) k _ rfl (S1.out.row.alloc _) (wc.heap.size+1) (some ⟨wc.heap.size,0,none⟩) 1 1 [.string Y] rfl (fv wc _ _) (by simp[Value.oneCell']) (by simp only[maxLen];omega) (by omega) (by simp;have:=S1.out.bel.size;omega) ?_;intro v1 w1 o1 g1 a1)
    obtain⟨A1,c1,rfl⟩:=aP o1
    have R1:=ae (S1.out.grow (x:=Y) o1 g1)
    clear o1 g1 a1
    go_wp2_with fail
    go_roundw
    case rel=>exact⟨k+1,xs++[Y],A1,c1,by omega,rfl,by go_num,R1,by show _=_;rw[TK.out,List.map_append,HT.out];simp[HTX.out]⟩
    case measure=>simp[intOf];omega
   | true=>
    rw[hno] at c0 TX
    have HTX:Hid (bl ((⟨#[33]⟩:BA)++Y)=x.text):=TX.out
    clear TX hno
    go_wp2_with (at_builtin;refine aD _ rfl _ _ _ rfl w0.heap.size 9 i0 _ 1 16 Tryz.underlying26 hi0 hz0 hz1 hz2 rfl (by omega) (.slice B k cc) k _ rfl (S1.out.row.alloc _) (wc.heap.size+1) (some ⟨wc.heap.size,0,none⟩) 1 1 [.string (⟨#[33]⟩++Y)] rfl (fv wc _ _) (by simp[Value.oneCell']) (by simp only[maxLen];omega) (by omega) (by simp;have:=S1.out.bel.size;omega) ?_;intro v1 w1 o1 g1 a1)
    obtain⟨A1,c1,rfl⟩:=aP o1
    have R1:=ae (S1.out.grow (x:=⟨#[33]⟩++Y) o1 g1)
    clear o1 g1 a1
    go_wp2_with fail
    go_roundw
    case rel=>exact⟨k+1,xs++[⟨#[33]⟩++Y],A1,c1,by omega,rfl,by go_num,R1,by show _=_;rw[TK.out,List.map_append,HT.out];simp[HTX.out]⟩
    case measure=>simp[intOf];omega
  ·have hkL:k=L.length:=by omega
   have EX:Hid (xs.map bl=L.map fF.text):=by show _=_;rw[HT.out,hkL,List.take_length]
   have hln:=HS.out.len
   have hcap:=ll HS.out.row
   have JL:Hid ((Lib.join (xs.map bl) (bl ⟨#[32]⟩)).length≤140737488355328):=by
    have h1:=lS (bl ⟨#[32]⟩) 131 (xs.map bl) (fun y hy=>by rw[EX.out] at hy;obtain⟨z,hz,rfl⟩:=List.mem_map.1 hy;exact z.text_len (HL.out z hz))
    have h2:(bl ⟨#[32]⟩:LU).length=1:=rfl
    rw[h2,List.length_map,hln] at h1
    show _≤_;omega
   have HJ:=ae (fun (_:Unit)=>ox B cc xs ⟨#[32]⟩ wr (by rw[hln];exact cH HS.out.row) (by omega) (by omega) JL.out)
   rw[hln] at HJ
   clear hcap JL hln hkL
   go_wp2_with fail
   refine(HJ.out ()).mono ?_;rintro e w2 ⟨rfl,hb2⟩
   have ET:Hid (bC (Lib.join (xs.map bl) (bl ⟨#[32]⟩))=bC (vE L)):=by show _=_;rw[EX.out];rfl
   have B2:Hid (Below w.heap.size w w2):=aq (aq HB0.out HS.out.bel) hb2
   clear hb2
   go_wp2_with fail
   go_ret2
   exact⟨by rw[←ET.out];rfl,B2.out⟩
end
end Go.Proofs.YtaohgmcbpafdeaaGreatDoor
