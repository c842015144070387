/- A part of the proof. -/
import Derived.BigQuiet
import Derived.Deep.CutBlock
import Derived.Deep.DeepCutAuto
import Derived.Deep.LoopGhost
import Derived.Deep.QuietTactic
import Derived.IntWalk
import Derived.Test.YtaohgmcbpafdeaaGreatDoorA02
import Derived.Test.YtaohgmcbpafdeaaGreatDoorA06
set_option maxRecDepth 100000
set_option maxHeartbeats 20000000
set_option linter.unusedVariables false
set_option linter.unusedSimpArgs false
namespace Go.Proofs.YtaohgmcbpafdeaaGreatDoor
section
open Go.RowKit
theorem aq {w w1 w2:World}(h1:Below w.heap.size w w1)(h2:Below w1.heap.size w1 w2):Below w.heap.size w w2:=h1.trans (h2.mono h1.size)
def aw (fmt:Int)(n:Nat):BA:=
 if fmt=1 then (match n with | 0=>⟨#[97,109,100,54,52]⟩ | 1=>⟨#[97,114,109,54,52]⟩ | _=>⟨#[97,108,108]⟩)
 else (match n with | 0=>⟨#[120,56,54,95,54,52]⟩ | 1=>⟨#[97,97,114,99,104,54,52]⟩ | _=>⟨#[110,111,97,114,99,104]⟩)
theorem yq (n:Int)(w:World):
  Calls Tryz.prog 53 #[.int .i64 n] w fun e w'=>e=.returned (.agg #[.string (aw n 0),.string (aw n 1),.string (aw n 2)])∧Below w.heap.size w w':=by
 by_cases h:n=1
 ·subst h
  go_enter Tryz.func53,Tryz.ntmps53
  go_wp2
  refine bodyPost_ret (v:=.agg #[.string (aw 1 0),.string (aw 1 1),.string (aw 1 2)]) (by simp[results,Tryz.results53,go_sem,aw]) rfl ⟨rfl,?_⟩
  exact bR.alloc lr _
 ·have hb:(n==1)=false:=by simpa using h
  go_enter Tryz.func53,Tryz.ntmps53
  go_wp2
  refine bodyPost_ret (v:=.agg #[.string (aw n 0),.string (aw n 1),.string (aw n 2)]) (by simp[results,Tryz.results53,go_sem,aw,h]) rfl ⟨rfl,?_⟩
  exact bR.alloc lr _
theorem dx (s t:BA):(s.toList==t.toList)=decide (s=t):=by
 rw[ah,ah,bI];simp;exact⟨dY,fun h=>by rw[h]⟩
def aW (most n:Int):Int:=if n > most then most+1 else n
theorem ed (most n:Int)(h0:0≤most)(hn:0≤n):0≤aW most n∧aW most n≤most+1∧(aW most n≤most→aW most n=n):=by
 unfold aW;split<;>omega
theorem nB (n most:Int)(h0:0≤most)(h1:most≤1000000)(w:World):
  Calls Tryz.prog 49 #[.int .i64 n,.int .i64 most] w fun e w'=>e=.returned (.int .i64 (aW most n))∧w'=w:=by
 by_cases h:most<n
 ·go_enter Tryz.func49,Tryz.ntmps49
  go_wp2
  go_ret
  exact⟨ap (by unfold aW;rw[if_pos (by omega)]),rfl⟩
 ·go_enter Tryz.func49,Tryz.ntmps49
  go_wp2
  go_ret
  exact⟨ap (by unfold aW;rw[if_neg (by omega)]),rfl⟩
def bY (l:List BA):Nat:=(l.map fun s=>1+s.size).sum
def eA (l:List et):Nat:=(l.map fun x=>1+x.nm.size+x.ver.size).sum
def cT (l:List av):Nat:=(l.map fun x=>1+x.path.size+x.owner.size+x.group.size+x.link.size+x.sum.size).sum
def eC (l:List bd):Nat:=(l.map fun x=>1+x.body.size).sum
def dn (p:bJ):Nat:=p.nm.size+p.ver.size+p.ar.size+p.sm.size
def jB (p:bJ):Nat:=dn p+bY p.needs+bY p.bars+eA p.gives+cT p.files+eC p.scripts
def KZ (most:Int)(base:Nat)(m:Int):Prop:=0≤m∧m≤6*most+6∧(m≤most→m=base)
structure Bx (w wr:World) (vs:LV):Prop where
 bel:Below w.heap.size w wr
 sz:w.heap.size<wr.heap.size
 cell:∀ (j:Nat)(u:Value),vs[j]?=some u→wr.cell? ⟨w.heap.size,j,none⟩=some u
 free:∀ j:Nat,j<vs.length→wr.frozen? ⟨w.heap.size,j,none⟩=false
theorem Bx.step {w w1 w2:World}{vs:LV}(h:Bx w w1 vs)(hb:Below w1.heap.size w1 w2):Bx w w2 vs:=
 ⟨aq h.bel hb,Nat.lt_of_lt_of_le h.sz hb.size,fun j u hu=>(hb.cell (p:=⟨w.heap.size,j,none⟩) h.sz).trans (h.cell j u hu),fun j hj=>(hb.frozen (p:=⟨w.heap.size,j,none⟩) h.sz).trans (h.free j hj)⟩
theorem Bx.start (w:World)(vs:LV)(t:TypeId):Bx w (w.alloc (.cells vs.toArray t)) vs:=
 ⟨bR.alloc lr _,by simp,fun j u hu=>by simp[hu],fun j _=>by simp⟩
theorem Bx.drewN {w w1:World}{vs:LV}(h:Bx w w1 vs)(k:Nat):Bx w (w1.drewN k) vs:=h.step (below_drewN' k)
 where below_drewN' {w1:World} (k:Nat):Below w1.heap.size w1 (w1.drewN k):=⟨rfl,rfl,rfl,lr,fun _ _=>rfl⟩
theorem oQ (n most:Int)(h0:0≤most)(h1:most≤1000000)(w:World):
  Calls Tryz.prog 49 #[.int .i64 n,.int .i64 most] w fun e w'=>e=.returned (.int .i64 (aW most n))∧w=w':=
 (nB n most h0 h1 w).mono fun _ _ ⟨he,hw⟩=>⟨he,hw.symm⟩
theorem aI {T E:TypeId}{sz:Nat}(hT:Tryz.prog.underlying T=some (.slice (Tryz.prog.elem T)))(hE:Tryz.prog.elem T=E)(hs:∀ w,(sizeOf E).run Tryz.prog w=.ok sz w)
  {A:OA}{n c k b off:Nat}(hA:A=some ⟨b,off,none⟩)(hk:k<n)(w:World):(Instr.indexAt T (.slice A n c) (.int .i64 k)).run Tryz.prog w=.ok (.pointer (some ⟨b,off+k*sz,none⟩)) w:=by
 rw[hA,run_indexAt_slice _ _ _ _ _ _ _ hT,if_pos (by omega),hE,hs]
 simp[Addr.add]
theorem ru (l:List BA)(k:Nat)(x:BA)(h:l[k]?=some x):bY (l.take (k+1))=bY (l.take k)+1+x.size:=by
 obtain⟨hk,hx⟩:=gS h
 unfold bY;rw[tS hk,List.map_append,List.sum_append,hx];simp;omega
theorem yr (l:List et)(k:Nat)(x:et)(h:l[k]?=some x):eA (l.take (k+1))=eA (l.take k)+1+x.nm.size+x.ver.size:=by
 obtain⟨hk,hx⟩:=gS h
 unfold eA;rw[tS hk,List.map_append,List.sum_append,hx];simp;omega
theorem yt (l:List av)(k:Nat)(x:av)(h:l[k]?=some x):cT (l.take (k+1))=cT (l.take k)+1+x.path.size+x.owner.size+x.group.size+x.link.size+x.sum.size:=by
 obtain⟨hk,hx⟩:=gS h
 unfold cT;rw[tS hk,List.map_append,List.sum_append,hx];simp;omega
theorem ux (l:List bd)(k:Nat)(x:bd)(h:l[k]?=some x):eC (l.take (k+1))=eC (l.take k)+1+x.body.size:=by
 obtain⟨hk,hx⟩:=gS h
 unfold eC;rw[tS hk,List.map_append,List.sum_append,hx];simp;omega
theorem Bd (        p:bJ)(most:Int)(h0:0≤most)(h1:most≤1000000)(w:World)(hp:p.ok w)(hf:p.fits):
  Calls Tryz.prog 28 #[p.val,.int .i64 most] w fun e w'=>(∃ m:Int,e=.returned (.int .i64 m)∧KZ most (jB p) m)∧Below w.heap.size w w':=by
 have HP:=ae hp;clear hp
 have HF:=ae hf;clear hf
 obtain⟨a1,a2,A3⟩:=ed most p.nm.size h0 (by omega)
 obtain⟨b1,b2,B3⟩:=ed most p.ver.size h0 (by omega)
 obtain⟨c1,c2,C3⟩:=ed most p.ar.size h0 (by omega)
 obtain⟨d1,d2,D3⟩:=ed most p.sm.size h0 (by omega)
 have HS:Hid (KZ most (dn p) (aW most ↑p.nm.size+aW most ↑p.ver.size+aW most ↑p.ar.size+aW most ↑p.sm.size)):=by
  show KZ _ _ _;unfold KZ dn;omega
 clear A3 B3 C3 D3
 have s1:IntKind.i64.wrap (aW most ↑p.nm.size+aW most ↑p.ver.size)=aW most ↑p.nm.size+aW most ↑p.ver.size:=IntWalk.i64_in _ (by omega)
 have s2:IntKind.i64.wrap (aW most ↑p.nm.size+aW most ↑p.ver.size+aW most ↑p.ar.size)=aW most ↑p.nm.size+aW most ↑p.ver.size+aW most ↑p.ar.size:=IntWalk.i64_in _ (by omega)
 have s3:IntKind.i64.wrap (aW most ↑p.nm.size+aW most ↑p.ver.size+aW most ↑p.ar.size+aW most ↑p.sm.size)=aW most ↑p.nm.size+aW most ↑p.ver.size+aW most ↑p.ar.size+aW most ↑p.sm.size:=IntWalk.i64_in _ (by omega)
 unfold bJ.val
 go_enter Tryz.func28,Tryz.ntmps28
 go_wp2_with fail
 go_quiet ((go_at_call 49;exact Calls.quiet_of_same (nB _ _ h0 h1 _)))
 clear s1 s2 s3
 go_upto_block 0 with(fail)
 go_cut [5] (fun s5 wx=>∃ m:Int,s5=.int .i64 m∧0≤m∧m≤6*most+6∧Hid (m≤most→m=((dn p+bY p.needs:Nat):Int))∧Hid (Bx w wx p.cells))
 case first=>
  go_wp2_with fail
  go_loopw [5,6] (fun n i wr=>∃ (k:Nat) (m:Int),k≤p.needs.length∧i=.int .i64 k∧n=.int .i64 m∧0≤m∧m≤6*most+6∧Hid (m≤most→m=((dn p+bY (p.needs.take k):Nat):Int))∧Hid (Bx w wr p.cells)) (fun _ i _=>p.needs.length-(intOf i).toNat)
  case atStart=>exact⟨0,_,z0,rfl,rfl,HS.out.1,HS.out.2.1,(fun h=>by rw[HS.out.2.2 h];simp[bY]),(Bx.start w p.cells _).drewN _⟩
  case round=>
   obtain⟨k,m,hk,rfl,rfl,m0,m1,M2,BX⟩:=hrel
   have hc:=BX.out.cell 4 _ rfl
   have hlen:=HF.out.needs
   by_cases hlt:k<p.needs.length
   ·by_cases hm:m≤most
    ·obtain⟨x,hx⟩:∃ x,p.needs[k]?=some x:=⟨_,gG hlt⟩
     obtain⟨b,off,hA,he⟩:=(HP.out.needs.below BX.out.bel).str k x hx
     have hix:=fun W=>aI (T:=26) (E:=9) (sz:=1) (c:=p.nc) Tryz.underlying26 rfl Tryz.sizeOf9 hA hlt W
     simp only[Nat.mul_one] at hix
     obtain⟨q0,r0,R0⟩:=ed most x.size h0 (by omega)
     have HX:=ae hx;clear hx hA
     have HW:=ae (ru p.needs k x HX.out)
     have HR0:=ae R0;clear R0
     go_wp2_with fail
     refine(oQ _ _ h0 h1 _).mono ?_;rintro e w' ⟨rfl,rfl⟩
     go_wp2_with fail
     have F1:Hid (m+1+aW most ↑x.size≤most→m+1+aW most ↑x.size=((dn p+bY (p.needs.take (k+1)):Nat):Int)):=by
      intro h;rw[HW.out];have:=M2.out hm
      have:=HR0.out (by omega)
      omega
     go_roundw
     case rel=>exact⟨k+1,_,by omega,by go_num,rfl,by omega,by omega,F1,BX⟩
     case measure=>simp[intOf];omega
    ·go_wp2_with fail
     go_meet
     exact⟨m,rfl,m0,m1,(fun h=>by omega),BX⟩
   ·go_wp2_with fail
    go_meet
    exact⟨m,rfl,m0,m1,(fun h=>by rw[M2.out h,tL (by omega)]),BX⟩
 case rest=>
  obtain⟨m,rfl,m0,m1,M2,BX⟩:=hcut
  go_upto_block 2 with(fail)
  go_cut [5] (fun s5 wx=>∃ m:Int,s5=.int .i64 m∧0≤m∧m≤6*most+6∧Hid (m≤most→m=((dn p+bY p.needs+bY p.bars:Nat):Int))∧Hid (Bx w wx p.cells))
  case first=>
   go_wp2_with fail
   go_loopw [5,7] (fun n i wr=>∃ (k:Nat) (m:Int),k≤p.bars.length∧i=.int .i64 k∧n=.int .i64 m∧0≤m∧m≤6*most+6∧Hid (m≤most→m=((dn p+bY p.needs+bY (p.bars.take k):Nat):Int))∧Hid (Bx w wr p.cells)) (fun _ i _=>p.bars.length-(intOf i).toNat)
   case atStart=>exact⟨0,_,z0,rfl,rfl,m0,m1,(fun h=>by rw[M2.out h];simp[bY]),BX⟩
   case round=>
    obtain⟨k,m,hk,rfl,rfl,m0,m1,M2,BX⟩:=hrel
    have hc:=BX.out.cell 5 _ rfl
    have hlen:=HF.out.bars
    by_cases hlt:k<p.bars.length
    ·by_cases hm:m≤most
     ·obtain⟨x,hx⟩:∃ x,p.bars[k]?=some x:=⟨_,gG hlt⟩
      obtain⟨b,off,hA,he⟩:=(HP.out.bars.below BX.out.bel).str k x hx
      have hix:=fun W=>aI (T:=26) (E:=9) (sz:=1) (c:=p.bc) Tryz.underlying26 rfl Tryz.sizeOf9 hA hlt W
      simp only[Nat.mul_one] at hix
      obtain⟨q0,r0,R0⟩:=ed most x.size h0 (by omega)
      have HX:=ae hx;clear hx hA
      have HW:=ae (ru p.bars k x HX.out)
      have HR0:=ae R0;clear R0
      go_wp2_with fail
      refine(oQ _ _ h0 h1 _).mono ?_;rintro e w' ⟨rfl,rfl⟩
      go_wp2_with fail
      have F1:Hid (m+1+aW most ↑x.size≤most→m+1+aW most ↑x.size=((dn p+bY p.needs+bY (p.bars.take (k+1)):Nat):Int)):=by
       intro h;rw[HW.out];have:=M2.out hm
       have:=HR0.out (by omega)
       omega
      go_roundw
      case rel=>exact⟨k+1,_,by omega,by go_num,rfl,by omega,by omega,F1,BX⟩
      case measure=>simp[intOf];omega
     ·go_wp2_with fail
      go_meet
      exact⟨m,rfl,m0,m1,(fun h=>by omega),BX⟩
    ·go_wp2_with fail
     go_meet
     exact⟨m,rfl,m0,m1,(fun h=>by rw[M2.out h,tL (by omega)]),BX⟩
  case rest=>
   obtain⟨m,rfl,m0,m1,M2,BX⟩:=hcut
   go_upto_block 4 with(fail)
   go_cut [5] (fun s5 wx=>∃ m:Int,s5=.int .i64 m∧0≤m∧m≤6*most+6∧Hid (m≤most→m=((dn p+bY p.needs+bY p.bars+eA p.gives:Nat):Int))∧Hid (Bx w wx p.cells))
   case first=>
    go_wp2_with fail
    go_loopw [5,8] (fun n i wr=>∃ (k:Nat) (m:Int),k≤p.gives.length∧i=.int .i64 k∧n=.int .i64 m∧0≤m∧m≤6*most+6∧Hid (m≤most→m=((dn p+bY p.needs+bY p.bars+eA (p.gives.take k):Nat):Int))∧Hid (Bx w wr p.cells)) (fun _ i _=>p.gives.length-(intOf i).toNat)
    case atStart=>exact⟨0,_,z0,rfl,rfl,m0,m1,(fun h=>by rw[M2.out h];simp[eA]),BX⟩
    case round=>
     obtain⟨k,m,hk,rfl,rfl,m0,m1,M2,BX⟩:=hrel
     have hc:=BX.out.cell 6 _ rfl
     have hlen:=HF.out.gives
     by_cases hlt:k<p.gives.length
     ·by_cases hm:m≤most
      ·obtain⟨x,hx⟩:∃ x,p.gives[k]?=some x:=⟨_,gG hlt⟩
       obtain⟨b,off,hA,he⟩:=(HP.out.gives.below BX.out.bel).elem yo k x hx
       have e0:=he 0 _ rfl
       have e2:=he 2 _ rfl
       simp only[Nat.add_zero] at e0
       clear he
       have hix:=fun W=>aI (T:=35) (E:=110) (sz:=3) (c:=p.gc) Tryz.underlying35 rfl Tryz.sizeOf110 hA hlt W
       obtain⟨q0,r0,R0⟩:=ed most x.nm.size h0 (by omega)
       obtain⟨q2,r2,R2⟩:=ed most x.ver.size h0 (by omega)
       have HX:=ae hx;clear hx hA
       have HW:=ae (yr p.gives k x HX.out)
       have HR0:=ae R0;clear R0
       have HR2:=ae R2;clear R2
       have s0:IntKind.i64.wrap (m+1)=m+1:=IntWalk.i64_in _ (by omega)
       have s1:IntKind.i64.wrap (m+1+aW most ↑x.nm.size)=m+1+aW most ↑x.nm.size:=IntWalk.i64_in _ (by omega)
       have s2:IntKind.i64.wrap (m+1+aW most ↑x.nm.size+aW most ↑x.ver.size)=m+1+aW most ↑x.nm.size+aW most ↑x.ver.size:=IntWalk.i64_in _ (by omega)
       go_wp2_with fail
       go_quiet ((go_at_call 49;exact Calls.quiet_of_same (nB _ _ h0 h1 _)))
       clear s0 s1 s2
       go_wp2_with fail
       have F1:Hid (m+1+aW most ↑x.nm.size+aW most ↑x.ver.size≤most→m+1+aW most ↑x.nm.size+aW most ↑x.ver.size=((dn p+bY p.needs+bY p.bars+eA (p.gives.take (k+1)):Nat):Int)):=by
        intro h;rw[HW.out];have:=M2.out hm
        have:=HR0.out (by omega)
        have:=HR2.out (by omega)
        omega
       go_roundw
       case rel=>exact⟨k+1,_,by omega,by go_num,rfl,by omega,by omega,F1,BX.out.drewN _⟩
       case measure=>simp[intOf];omega
      ·go_wp2_with fail
       go_meet
       exact⟨m,rfl,m0,m1,(fun h=>by omega),BX⟩
     ·go_wp2_with fail
      go_meet
      exact⟨m,rfl,m0,m1,(fun h=>by rw[M2.out h,tL (by omega)]),BX⟩
   case rest=>
    obtain⟨m,rfl,m0,m1,M2,BX⟩:=hcut
    go_upto_block 6 with(fail)
    go_cut [5] (fun s5 wx=>∃ m:Int,s5=.int .i64 m∧0≤m∧m≤6*most+6∧Hid (m≤most→m=((dn p+bY p.needs+bY p.bars+eA p.gives+cT p.files:Nat):Int))∧Hid (Bx w wx p.cells))
    case first=>
     go_wp2_with fail
     go_loopw [5,9] (fun n i wr=>∃ (k:Nat) (m:Int),k≤p.files.length∧i=.int .i64 k∧n=.int .i64 m∧0≤m∧m≤6*most+6∧Hid (m≤most→m=((dn p+bY p.needs+bY p.bars+eA p.gives+cT (p.files.take k):Nat):Int))∧Hid (Bx w wr p.cells)) (fun _ i _=>p.files.length-(intOf i).toNat)
     case atStart=>exact⟨0,_,z0,rfl,rfl,m0,m1,(fun h=>by rw[M2.out h];simp[cT]),BX⟩
     case round=>
      obtain⟨k,m,hk,rfl,rfl,m0,m1,M2,BX⟩:=hrel
      have hc:=BX.out.cell 7 _ rfl
      have hlen:=HF.out.files
      by_cases hlt:k<p.files.length
      ·by_cases hm:m≤most
       ·obtain⟨x,hx⟩:∃ x,p.files[k]?=some x:=⟨_,gG hlt⟩
        obtain⟨b,off,hA,he⟩:=(HP.out.files.below BX.out.bel).elem iD k x hx
        have e0:=he 0 _ rfl
        have e1:=he 1 _ rfl
        have e2:=he 2 _ rfl
        have e3:=he 3 _ rfl
        have e4:=he 4 _ rfl
        have e5:=he 5 _ rfl
        have e6:=he 6 _ rfl
        have e7:=he 7 _ rfl
        simp only[Nat.add_zero] at e0
        clear he
        have hix:=fun W=>aI (T:=36) (E:=42) (sz:=8) (c:=p.fc) Tryz.underlying36 rfl Tryz.sizeOf42 hA hlt W
        obtain⟨q0,r0,R0⟩:=ed most x.path.size h0 (by omega)
        obtain⟨q3,r3,R3⟩:=ed most x.owner.size h0 (by omega)
        obtain⟨q4,r4,R4⟩:=ed most x.group.size h0 (by omega)
        obtain⟨q5,r5,R5⟩:=ed most x.link.size h0 (by omega)
        obtain⟨q6,r6,R6⟩:=ed most x.sum.size h0 (by omega)
        have HX:=ae hx;clear hx hA
        have HW:=ae (yt p.files k x HX.out)
        have HR0:=ae R0;clear R0
        have HR3:=ae R3;clear R3
        have HR4:=ae R4;clear R4
        have HR5:=ae R5;clear R5
        have HR6:=ae R6;clear R6
        have hbs:=BX.out.sz
        go_wp2_with fail
        have s0:IntKind.i64.wrap (m+1)=m+1:=IntWalk.i64_in _ (by omega)
        have s1:IntKind.i64.wrap (m+1+aW most ↑x.path.size)=m+1+aW most ↑x.path.size:=IntWalk.i64_in _ (by omega)
        have s2:IntKind.i64.wrap (m+1+aW most ↑x.path.size+aW most ↑x.owner.size)=m+1+aW most ↑x.path.size+aW most ↑x.owner.size:=IntWalk.i64_in _ (by omega)
        have s3:IntKind.i64.wrap (m+1+aW most ↑x.path.size+aW most ↑x.owner.size+aW most ↑x.group.size)=m+1+aW most ↑x.path.size+aW most ↑x.owner.size+aW most ↑x.group.size:=IntWalk.i64_in _ (by omega)
        have s4:IntKind.i64.wrap (m+1+aW most ↑x.path.size+aW most ↑x.owner.size+aW most ↑x.group.size+aW most ↑x.link.size)=m+1+aW most ↑x.path.size+aW most ↑x.owner.size+aW most ↑x.group.size+aW most ↑x.link.size:=IntWalk.i64_in _ (by omega)
        have s5:IntKind.i64.wrap (m+1+aW most ↑x.path.size+aW most ↑x.owner.size+aW most ↑x.group.size+aW most ↑x.link.size+aW most ↑x.sum.size)=m+1+aW most ↑x.path.size+aW most ↑x.owner.size+aW most ↑x.group.size+aW most ↑x.link.size+aW most ↑x.sum.size:=IntWalk.i64_in _ (by omega)
        go_quiet ((go_at_call 49;exact Calls.quiet_of_same (nB _ _ h0 h1 _)))
        clear s0 s1 s2 s3 s4 s5
        go_wp2_with fail
        have F1:Hid (m+1+aW most ↑x.path.size+aW most ↑x.owner.size+aW most ↑x.group.size+aW most ↑x.link.size+aW most ↑x.sum.size≤most→m+1+aW most ↑x.path.size+aW most ↑x.owner.size+aW most ↑x.group.size+aW most ↑x.link.size+aW most ↑x.sum.size=((dn p+bY p.needs+bY p.bars+eA p.gives+cT (p.files.take (k+1)):Nat):Int)):=by
         intro h;rw[HW.out];have:=M2.out hm
         have:=HR0.out (by omega)
         have:=HR3.out (by omega)
         have:=HR4.out (by omega)
         have:=HR5.out (by omega)
         have:=HR6.out (by omega)
         omega
        go_roundw
        case rel=>exact⟨k+1,_,by omega,by go_num,rfl,by omega,by omega,F1,(BX.out.step (bR.alloc lr _)).drewN _⟩
        case measure=>simp[intOf];omega
       ·go_wp2_with fail
        go_meet
        exact⟨m,rfl,m0,m1,(fun h=>by omega),BX⟩
      ·go_wp2_with fail
       go_meet
       exact⟨m,rfl,m0,m1,(fun h=>by rw[M2.out h,tL (by omega)]),BX⟩
    case rest=>
     obtain⟨m,rfl,m0,m1,M2,BX⟩:=hcut
     go_upto_block 8 with(fail)
     go_cut [5] (fun s5 wx=>∃ m:Int,s5=.int .i64 m∧0≤m∧m≤6*most+6∧Hid (m≤most→m=((dn p+bY p.needs+bY p.bars+eA p.gives+cT p.files+eC p.scripts:Nat):Int))∧Hid (Bx w wx p.cells))
     case first=>
      go_wp2_with fail
      go_loopw [5,11] (fun n i wr=>∃ (k:Nat) (m:Int),k≤p.scripts.length∧i=.int .i64 k∧n=.int .i64 m∧0≤m∧m≤6*most+6∧Hid (m≤most→m=((dn p+bY p.needs+bY p.bars+eA p.gives+cT p.files+eC (p.scripts.take k):Nat):Int))∧Hid (Bx w wr p.cells)) (fun _ i _=>p.scripts.length-(intOf i).toNat)
      case atStart=>exact⟨0,_,z0,rfl,rfl,m0,m1,(fun h=>by rw[M2.out h];simp[eC]),BX⟩
      case round=>
       obtain⟨k,m,hk,rfl,rfl,m0,m1,M2,BX⟩:=hrel
       have hc:=BX.out.cell 8 _ rfl
       have hlen:=HF.out.scripts
       by_cases hlt:k<p.scripts.length
       ·by_cases hm:m≤most
        ·obtain⟨x,hx⟩:∃ x,p.scripts[k]?=some x:=⟨_,gG hlt⟩
         obtain⟨b,off,hA,he⟩:=(HP.out.scripts.below BX.out.bel).elem jY k x hx
         have e1:=he 1 _ rfl
         clear he
         have hix:=fun W=>aI (T:=37) (E:=112) (sz:=2) (c:=p.sc) Tryz.underlying37 rfl Tryz.sizeOf112 hA hlt W
         obtain⟨q1,r1,R1⟩:=ed most x.body.size h0 (by omega)
         have HX:=ae hx;clear hx hA
         have HW:=ae (ux p.scripts k x HX.out)
         have HR1:=ae R1;clear R1
         go_wp2_with fail
         refine(oQ _ _ h0 h1 _).mono ?_;rintro e w' ⟨rfl,rfl⟩
         go_wp2_with fail
         have F1:Hid (m+1+aW most ↑x.body.size≤most→m+1+aW most ↑x.body.size=((dn p+bY p.needs+bY p.bars+eA p.gives+cT p.files+eC (p.scripts.take (k+1)):Nat):Int)):=by
                    intro h;rw[HW.out];have:=M2.out hm
                    have:=HR1.out (by omega)
                    omega
         go_roundw
         case rel=>exact⟨k+1,_,by omega,by go_num,rfl,by omega,by omega,F1,BX⟩
         case measure=>simp[intOf];omega
        ·go_wp2_with fail
         go_meet
         exact⟨m,rfl,m0,m1,(fun h=>by omega),BX⟩
       ·go_wp2_with fail
        go_meet
        exact⟨m,rfl,m0,m1,(fun h=>by rw[M2.out h,tL (by omega)]),BX⟩
     case rest=>
      obtain⟨m,rfl,m0,m1,M2,BX⟩:=hcut
      go_wp2_with fail
      go_ret
      exact⟨⟨m,rfl,m0,m1,M2.out⟩,BX.out.bel⟩
end
end Go.Proofs.YtaohgmcbpafdeaaGreatDoor
