/- A part of the proof of a law on dependencies in three formats. No condition. -/
import Derived.Test.YtkjdbpjglobbjaaGreatDoorE35
import Derived.Test.YtkjdbpjglobbjaaGreatDoorE45
set_option maxRecDepth 100000
set_option maxHeartbeats 20000000
set_option linter.unusedVariables false
set_option linter.unusedSimpArgs false
namespace Go.Proofs.YtkjdbpjglobbjaaGreatDoor
section
open Go.RowKit
def ux:List Value:=[.slice none 0 0,.string ⟨#[]⟩,.string ⟨#[]⟩,.int .i64 0,.string ⟨#[]⟩,.slice none 0 0,.slice none 0 0]
structure Hu (w wr:World) (v7 v3:List Value):Prop where
 bel:Below w.heap.size w wr
 r:aF wr w.heap.size ux
 t:aF wr (w.heap.size+1) v7
 f:aF wr (w.heap.size+2) v3
theorem Hu.step {w wr w':World}{v7 v3:List Value}(h:Hu w wr v7 v3)(hb:Below wr.heap.size wr w'):Hu w w' v7 v3:=⟨ah h.bel hb,h.r.below hb,h.t.below hb,h.f.below hb⟩
theorem Hu.start (w:World):Hu w (((w.alloc (.cells #[.slice none 0 0,.string ⟨#[]⟩,.string ⟨#[]⟩,.int .i64 0,.string ⟨#[]⟩,.slice none 0 0,.slice none 0 0] 73)).alloc (.cells #[.slice none 0 0,.string ⟨#[]⟩,.string ⟨#[]⟩,.int .i64 0,.string ⟨#[]⟩,.slice none 0 0,.slice none 0 0] 73)).alloc (.cells #[.string ⟨#[]⟩,.int .i64 0,.int .i64 0] 101)) ux [.string ⟨#[]⟩,.int .i64 0,.int .i64 0]:=by
 refine⟨((bR.alloc lr _).alloc (by simp) _).alloc (by simp;omega) _,((aF.new w ux _).alloc _).alloc _,?_,?_⟩
 ·have:=aF.new (w.alloc (.cells #[.slice none 0 0,.string ⟨#[]⟩,.string ⟨#[]⟩,.int .i64 0,.string ⟨#[]⟩,.slice none 0 0,.slice none 0 0] 73)) ux 73
  rw[show(w.alloc (.cells #[.slice none 0 0,.string ⟨#[]⟩,.string ⟨#[]⟩,.int .i64 0,.string ⟨#[]⟩,.slice none 0 0,.slice none 0 0] 73)).heap.size=w.heap.size+1 by simp] at this
  exact this.alloc _
 ·have:=aF.new ((w.alloc (.cells #[.slice none 0 0,.string ⟨#[]⟩,.string ⟨#[]⟩,.int .i64 0,.string ⟨#[]⟩,.slice none 0 0,.slice none 0 0] 73)).alloc (.cells #[.slice none 0 0,.string ⟨#[]⟩,.string ⟨#[]⟩,.int .i64 0,.string ⟨#[]⟩,.slice none 0 0,.slice none 0 0] 73)) [.string ⟨#[]⟩,.int .i64 0,.int .i64 0] 101
  rw[show((w.alloc (.cells #[.slice none 0 0,.string ⟨#[]⟩,.string ⟨#[]⟩,.int .i64 0,.string ⟨#[]⟩,.slice none 0 0,.slice none 0 0] 73)).alloc (.cells #[.slice none 0 0,.string ⟨#[]⟩,.string ⟨#[]⟩,.int .i64 0,.string ⟨#[]⟩,.slice none 0 0,.slice none 0 0] 73)).heap.size=w.heap.size+2 by simp] at this
  exact this
theorem Hu.cells {w wr:World}{a0 a1 a2 a3 a4 a5 a6 b0 b1 b2:Value}(h:Hu w wr [a0,a1,a2,a3,a4,a5,a6] [b0,b1,b2]):
  (wr.cell? ⟨w.heap.size+1,0,none⟩=some a0∧wr.cell? ⟨w.heap.size+1,1,none⟩=some a1∧wr.cell? ⟨w.heap.size+1,2,none⟩=some a2∧wr.cell? ⟨w.heap.size+1,3,none⟩=some a3∧wr.cell? ⟨w.heap.size+1,4,none⟩=some a4∧wr.cell? ⟨w.heap.size+1,5,none⟩=some a5∧wr.cell? ⟨w.heap.size+1,6,none⟩=some a6) ∧
  (wr.cell? ⟨w.heap.size+2,0,none⟩=some b0∧wr.cell? ⟨w.heap.size+2,1,none⟩=some b1∧wr.cell? ⟨w.heap.size+2,2,none⟩=some b2) ∧
  (wr.cell? ⟨w.heap.size,0,none⟩=some (.slice none 0 0)∧wr.cell? ⟨w.heap.size,1,none⟩=some (.string ⟨#[]⟩)∧wr.cell? ⟨w.heap.size,2,none⟩=some (.string ⟨#[]⟩)∧wr.cell? ⟨w.heap.size,3,none⟩=some (.int .i64 0)∧wr.cell? ⟨w.heap.size,4,none⟩=some (.string ⟨#[]⟩)∧wr.cell? ⟨w.heap.size,5,none⟩=some (.slice none 0 0)∧wr.cell? ⟨w.heap.size,6,none⟩=some (.slice none 0 0)) ∧
  (∀ j,j<7→wr.frozen? ⟨w.heap.size+1,j,none⟩=false)∧(∀ j,j<3→wr.frozen? ⟨w.heap.size+2,j,none⟩=false)∧(∀ j,j<7→wr.frozen? ⟨w.heap.size,j,none⟩=false):=
 ⟨⟨h.t.cell 0 _ rfl,h.t.cell 1 _ rfl,h.t.cell 2 _ rfl,h.t.cell 3 _ rfl,h.t.cell 4 _ rfl,h.t.cell 5 _ rfl,h.t.cell 6 _ rfl⟩,⟨h.f.cell 0 _ rfl,h.f.cell 1 _ rfl,h.f.cell 2 _ rfl⟩,
  ⟨h.r.cell 0 _ rfl,h.r.cell 1 _ rfl,h.r.cell 2 _ rfl,h.r.cell 3 _ rfl,h.r.cell 4 _ rfl,h.r.cell 5 _ rfl,h.r.cell 6 _ rfl⟩,fun j hj=>h.t.free j hj,fun j hj=>h.f.free j hj,fun j hj=>h.r.free j hj⟩
abbrev MR (wr:World) (b:Nat) (v0 v1 v2 v3 v4 v5 v6:Value):World:=((((((wr.setCell ⟨b,0,none⟩ v0).setCell ⟨b,1,none⟩ v1).setCell ⟨b,2,none⟩ v2).setCell ⟨b,3,none⟩ v3).setCell ⟨b,4,none⟩ v4).setCell ⟨b,5,none⟩ v5).setCell ⟨b,6,none⟩ v6
abbrev Jo (wr:World) (b:Nat) (v0 v1 v2:Value):World:=((wr.setCell ⟨b,0,none⟩ v0).setCell ⟨b,1,none⟩ v1).setCell ⟨b,2,none⟩ v2
abbrev GB (wr:World) (b:Nat) (v0 v1 v2 v3 v4:Value):World:=((((wr.setCell ⟨b,1,none⟩ v0).setCell ⟨b,2,none⟩ v1).setCell ⟨b,3,none⟩ v2).setCell ⟨b,4,none⟩ v3).setCell ⟨b,5,none⟩ v4
theorem qF {n b:Nat}{w wr:World}(h:Below n w wr)(hb:n≤b)(v0 v1 v2 v3 v4 v5 v6:Value):Below n w (MR wr b v0 v1 v2 v3 v4 v5 v6):=by
 unfold MR;repeat' refine aw ?_ hb _
 exact h
theorem qG {n b:Nat}{w wr:World}(h:Below n w wr)(hb:n≤b)(v0 v1 v2:Value):Below n w (Jo wr b v0 v1 v2):=by
 unfold Jo;repeat' refine aw ?_ hb _
 exact h
theorem GC {n b:Nat}{w wr:World}(h:Below n w wr)(hb:n≤b)(v0 v1 v2 v3 v4:Value):Below n w (GB wr b v0 v1 v2 v3 v4):=by
 unfold GB;repeat' refine aw ?_ hb _
 exact h
theorem Dx (wr:World)(b j:Nat)(v:Value):wr.grownBy (wr.setCell ⟨b,j,none⟩ v) (some b):=aU (World.grownBy.refl wr (some b)) (.inl rfl) _
theorem Dy (wr:World)(b:Nat)(v0 v1 v2 v3 v4 v5 v6:Value):wr.grownBy (MR wr b v0 v1 v2 v3 v4 v5 v6) (some b):=by
 unfold MR;repeat' refine aU ?_ (.inl rfl) _
 exact World.grownBy.refl wr (some b)
theorem oP (wr:World)(b:Nat)(v0 v1 v2:Value):wr.grownBy (Jo wr b v0 v1 v2) (some b):=by
 unfold Jo;repeat' refine aU ?_ (.inl rfl) _
 exact World.grownBy.refl wr (some b)
theorem GD (wr:World)(b:Nat)(v0 v1 v2 v3 v4:Value):wr.grownBy (GB wr b v0 v1 v2 v3 v4) (some b):=by
 unfold GB;repeat' refine aU ?_ (.inl rfl) _
 exact World.grownBy.refl wr (some b)
theorem Jp {tmps:Array Value}{W:World}{b:Nat}(h:aF W b ux)(ht:tmps[4]?=some (.pointer (some ⟨b,0,none⟩))){k:Int}(ht5:tmps[5]?=some (.int .i64 k))(A:Option Addr)(n c:Nat)(s1 s2:BA)(i:Int)(s3:BA)(B:Option Addr)(m d:Nat)(C:Option Addr)(p q:Nat):
  (results Tryz.f33 tmps).run Tryz.prog (MR W b (.slice A n c) (.string s1) (.string s2) (.int .i64 i) (.string s3) (.slice B m d) (.slice C p q)).drew =
   .ok (.tuple #[.agg #[.slice A n c,.string s1,.string s2,.int .i64 i,.string s3,.slice B m d,.slice C p q],.int .i64 k]) (MR W b (.slice A n c) (.string s1) (.string s2) (.int .i64 i) (.string s3) (.slice B m d) (.slice C p q)).drew:=by
 have r0:=h.cell 0 _ rfl
 have r1:=h.cell 1 _ rfl
 have r2:=h.cell 2 _ rfl
 have r3:=h.cell 3 _ rfl
 have r4:=h.cell 4 _ rfl
 have r5:=h.cell 5 _ rfl
 have r6:=h.cell 6 _ rfl
 simp(maxDischargeDepth:=10) [results,Tryz.results33,ht,ht5,go_sem,r0,r1,r2,r3,r4,r5,r6]
def nQ (A:Option Addr)(n c:Nat)(T:aj)(B:Option Addr)(m d:Nat):Value:=.agg #[.slice A n c,.string T.op,.string T.nm,.int .i64 T.aop,.string T.ver,.slice T.ka T.kids.length T.kc,.slice B m d]
def UF (s:LU)(w:World)(code:Int)(A:Option Addr)(n:Nat):Prop:=match eT s with
 | none=>code≠0
 | some L=>code=0∧∃ gs:List aW,gs.map aW.pl=L∧gs.length=n∧py w A gs∧xI gs∧xM gs
def Uv (s:LU)(w:World)(code:Int)(T:aj):Prop:=match dD s with
 | none=>code≠0
 | some t=>code=0∧T.pl=t∧xT w T∧T.cnt≤64∧dH T
def UG (s:LU)(w:World)(code:Int)(B:Option Addr)(m:Nat):Prop:=match eR s with
 | none=>code≠0
 | some L=>code=0∧m=L.length∧Rd w 4 B m (L.flatMap dR.cells)∧L.length≤64∧∀ x∈L,x.right
theorem eX.base {w:World}{lo lo':Nat}{A:Option Addr}{n c:Nat}{gs:List aW}(h:eX w lo A n c gs)(hl:lo'≤lo):eX w lo' A n c gs:=⟨h.len,cN h.row hl,fun g hg=>(h.grp g hg).base hl⟩
structure UH (fmt:Int) (s:LU) (lo:Nat) (w:World) (A:Option Addr) (n c:Nat) (T:aj) (B:Option Addr) (m d:Nat):Prop where
 grp:∀ L,fmt=1→eT s=some L→∃ gs:List aW,gs.map aW.pl=L∧eX w lo A n c gs
 rch:∀ t,fmt=2→dD s=some t→ce w lo none T
 wnt:∀ L,fmt=3→eR s=some L→w.ownsRow lo 86 4 (.slice B m d) m (L.flatMap dR.cells)
def sf (fmt:Int)(s:LU)(w:World)(e:Ending)(w':World):Prop:=
 ∃ (A:Option Addr) (n c:Nat) (T:aj) (B:Option Addr) (m d:Nat) (code:Int),e=.returned (.tuple #[nQ A n c T B m d,.int .i64 code])∧Below w.heap.size w w' ∧
  (fmt=1→UF s w' code A n)∧(fmt=2→Uv s w' code T)∧(fmt=3→UG s w' code B m)∧UH fmt s w.heap.size w' A n c T B m d
theorem yr (s:BA)(w:World)(hG:Gl w)(hs:s.size≤1000000):
  Calls Tryz.prog 33 #[.int .i64 1,.string s] w (sf 1 (bl s) w):=by
 have HG:=ae hG
 obtain⟨W0,hW0⟩:∃ W0,((w.alloc (.cells #[.slice none 0 0,.string ⟨#[]⟩,.string ⟨#[]⟩,.int .i64 0,.string ⟨#[]⟩,.slice none 0 0,.slice none 0 0] 73)).alloc (.cells #[.slice none 0 0,.string ⟨#[]⟩,.string ⟨#[]⟩,.int .i64 0,.string ⟨#[]⟩,.slice none 0 0,.slice none 0 0] 73)).alloc (.cells #[.string ⟨#[]⟩,.int .i64 0,.int .i64 0] 101)=W0:=⟨_,rfl⟩
 have S0:Hid (Hu w W0 ux [.string ⟨#[]⟩,.int .i64 0,.int .i64 0]):=by show Hu _ _ _ _;rw[←hW0];exact Hu.start w
 have hz0:w.heap.size+3=W0.heap.size:=by rw[←hW0];simp
 clear hG
 go_enter Tryz.func33,Tryz.ntmps33
 go_wp2_with fail
 clear hW0
 refine(Ja s W0 (HG.out.below S0.out.bel) (by omega)).mono ?_;rintro e w1 ⟨A,n,c,f,x,code,rfl,hb1,hm⟩
 have S1:=ae (S0.out.step hb1)
 have HM:=ae hm
 clear hb1 hm S0
 unfold gB
 obtain⟨⟨t0,t1,t2,t3,t4,t5,t6⟩,⟨f0,f1,f2⟩,⟨r0,r1,r2,r3,r4,r5,r6⟩,ft,ff,fr⟩:=S1.out.cells
 have ft0:=ft 0 (by omega)
 have ft1:=ft 1 (by omega)
 have ft2:=ft 2 (by omega)
 have ft3:=ft 3 (by omega)
 have ft4:=ft 4 (by omega)
 have ft5:=ft 5 (by omega)
 have ft6:=ft 6 (by omega)
 have ff0:=ff 0 (by omega)
 have ff1:=ff 1 (by omega)
 have ff2:=ff 2 (by omega)
 have fr0:=fr 0 (by omega)
 have fr1:=fr 1 (by omega)
 have fr2:=fr 2 (by omega)
 have fr3:=fr 3 (by omega)
 have fr4:=fr 4 (by omega)
 have fr5:=fr 5 (by omega)
 have fr6:=fr 6 (by omega)
 clear ft ff fr
 go_wp2_with fail
 go_region
 go_wp2_with fail
 refine bodyPost_ret (Jp (W:=Jo (w1.setCell ⟨w.heap.size+1,0,none⟩ (.slice A n c)) (w.heap.size+2) (.string f) (.int .i64 x) (.int .i64 code)) ?_ rfl rfl A n c ⟨#[]⟩ ⟨#[]⟩ 0 ⟨#[]⟩ none 0 0 none 0 0) rfl ?_
 ·exact((S1.out.r.grownBy (Dx _ _ _ _) (by simp)).grownBy (oP _ _ _ _ _) (by simp))
 refine⟨A,n,c,rZ,none,0,0,code,rfl,(qF (qG (aw S1.out.bel (by omega) _) (by omega) _ _ _) lr _ _ _ _ _ _ _).drew,?_⟩
 have hm:=HM.out
 cases hd:eT (bl s) with
 | none=>rw[hd] at hm;exact⟨fun _=>by unfold UF;rw[hd];exact hm.1,fun h=>absurd h (by decide),fun h=>absurd h (by decide),fun L _ h=>(by rw[hd] at h;cases h),fun _ h=>absurd h (by decide),fun _ h=>absurd h (by decide)⟩
 | some L=>
  rw[hd] at hm
  obtain⟨h0,gs,hgs,hO⟩:=hm
  have k1:=hO.kept (g:=w.heap.size+1) (by omega) (Dx w1 (w.heap.size+1) 0 (.slice A n c))
  have k2:=k1.kept (g:=w.heap.size+2) (by omega) (oP _ (w.heap.size+2) (.string f) (.int .i64 x) (.int .i64 code))
  have k3:=k2.kept (g:=w.heap.size) (by omega) (Dy _ w.heap.size (.slice A n c) (.string ⟨#[]⟩) (.string ⟨#[]⟩) (.int .i64 0) (.string ⟨#[]⟩) (.slice none 0 0) (.slice none 0 0))
  have k4:eX _ w.heap.size A n c gs:=(k3.below (kQ bR)).base (by omega)
  exact⟨fun _=>by unfold UF;rw[hd];exact⟨h0,gs,hgs,hO.len,k4.ok,k4.cap,xM.of (by rw[hgs];exact qB hd (by rw[af];omega))⟩,fun h=>absurd h (by decide),fun h=>absurd h (by decide),fun L' _ h=>(by rw[hd] at h;injection h with h;subst h;exact⟨gs,hgs,k4⟩),fun _ h=>absurd h (by decide),fun _ h=>absurd h (by decide)⟩
theorem qH (s:BA)(w:World)(hG:Gl w)(hs:s.size≤1000000):
  Calls Tryz.prog 33 #[.int .i64 2,.string s] w (sf 2 (bl s) w):=by
 have HG:=ae hG
 obtain⟨W0,hW0⟩:∃ W0,((w.alloc (.cells #[.slice none 0 0,.string ⟨#[]⟩,.string ⟨#[]⟩,.int .i64 0,.string ⟨#[]⟩,.slice none 0 0,.slice none 0 0] 73)).alloc (.cells #[.slice none 0 0,.string ⟨#[]⟩,.string ⟨#[]⟩,.int .i64 0,.string ⟨#[]⟩,.slice none 0 0,.slice none 0 0] 73)).alloc (.cells #[.string ⟨#[]⟩,.int .i64 0,.int .i64 0] 101)=W0:=⟨_,rfl⟩
 have S0:Hid (Hu w W0 ux [.string ⟨#[]⟩,.int .i64 0,.int .i64 0]):=by show Hu _ _ _ _;rw[←hW0];exact Hu.start w
 have hz0:w.heap.size+3=W0.heap.size:=by rw[←hW0];simp
 clear hG
 go_enter Tryz.func33,Tryz.ntmps33
 go_wp2_with fail
 clear hW0
 refine(Jm s W0 (HG.out.below S0.out.bel) hs).mono ?_;rintro e w1 ⟨T,f,x,code,rfl,hb1,hm⟩
 have S1:=ae (S0.out.step hb1)
 have HM:=ae hm
 clear hb1 hm S0
 unfold gB
 obtain⟨⟨t0,t1,t2,t3,t4,t5,t6⟩,⟨f0,f1,f2⟩,⟨r0,r1,r2,r3,r4,r5,r6⟩,ft,ff,fr⟩:=S1.out.cells
 have ft0:=ft 0 (by omega)
 have ft1:=ft 1 (by omega)
 have ft2:=ft 2 (by omega)
 have ft3:=ft 3 (by omega)
 have ft4:=ft 4 (by omega)
 have ft5:=ft 5 (by omega)
 have ft6:=ft 6 (by omega)
 have ff0:=ff 0 (by omega)
 have ff1:=ff 1 (by omega)
 have ff2:=ff 2 (by omega)
 have fr0:=fr 0 (by omega)
 have fr1:=fr 1 (by omega)
 have fr2:=fr 2 (by omega)
 have fr3:=fr 3 (by omega)
 have fr4:=fr 4 (by omega)
 have fr5:=fr 5 (by omega)
 have fr6:=fr 6 (by omega)
 clear ft ff fr
 unfold aj.val
 go_wp2_with fail
 go_region
 go_wp2_with fail
 refine bodyPost_ret (Jp (W:=Jo (GB w1 (w.heap.size+1) (.string T.op) (.string T.nm) (.int .i64 T.aop) (.string T.ver) (.slice T.ka T.kids.length T.kc)) (w.heap.size+2) (.string f) (.int .i64 x) (.int .i64 code)) ?_ rfl rfl none 0 0 T.op T.nm T.aop T.ver T.ka T.kids.length T.kc none 0 0) rfl ?_
 ·exact((S1.out.r.grownBy (GD _ _ _ _ _ _ _) (by simp)).grownBy (oP _ _ _ _ _) (by simp))
 refine⟨none,0,0,T,none,0,0,code,rfl,(qF (qG (GC S1.out.bel (by omega) _ _ _ _ _) (by omega) _ _ _) lr _ _ _ _ _ _ _).drew,?_⟩
 have hm:=HM.out
 cases hd:dD (bl s) with
 | none=>rw[hd] at hm;exact⟨fun h=>absurd h (by decide),fun _=>by unfold Uv;rw[hd];exact hm.1,fun h=>absurd h (by decide),fun _ h=>absurd h (by decide),fun L _ h=>(by rw[hd] at h;cases h),fun _ h=>absurd h (by decide)⟩
 | some t=>
  rw[hd] at hm
  obtain⟨h0,hT,hgd,hO,_,hc⟩:=hm
  have k1:=hO.kept (g:=w.heap.size+1) (by omega) (GD w1 (w.heap.size+1) (.string T.op) (.string T.nm) (.int .i64 T.aop) (.string T.ver) (.slice T.ka T.kids.length T.kc))
  have k2:=k1.kept (g:=w.heap.size+2) (by omega) (oP _ (w.heap.size+2) (.string f) (.int .i64 x) (.int .i64 code))
  have k3:=k2.kept (g:=w.heap.size) (by omega) (Dy _ w.heap.size (.slice none 0 0) (.string T.op) (.string T.nm) (.int .i64 T.aop) (.string T.ver) (.slice T.ka T.kids.length T.kc) (.slice none 0 0))
  have k4:ce _ w.heap.size none T:=(k3.low (kQ bR)).base (by omega)
  exact⟨fun h=>absurd h (by decide),fun _=>by unfold Uv;rw[hd];exact⟨h0,hT,k4.rd,hc,hgd⟩,fun h=>absurd h (by decide),fun _ h=>absurd h (by decide),fun _ _ _=>k4,fun _ h=>absurd h (by decide)⟩
theorem yu (s:BA)(w:World)(hG:NY w)(hs:s.size≤1000000):
  Calls Tryz.prog 33 #[.int .i64 3,.string s] w (sf 3 (bl s) w):=by
 have HG:=ae hG
 obtain⟨W0,hW0⟩:∃ W0,((w.alloc (.cells #[.slice none 0 0,.string ⟨#[]⟩,.string ⟨#[]⟩,.int .i64 0,.string ⟨#[]⟩,.slice none 0 0,.slice none 0 0] 73)).alloc (.cells #[.slice none 0 0,.string ⟨#[]⟩,.string ⟨#[]⟩,.int .i64 0,.string ⟨#[]⟩,.slice none 0 0,.slice none 0 0] 73)).alloc (.cells #[.string ⟨#[]⟩,.int .i64 0,.int .i64 0] 101)=W0:=⟨_,rfl⟩
 have S0:Hid (Hu w W0 ux [.string ⟨#[]⟩,.int .i64 0,.int .i64 0]):=by show Hu _ _ _ _;rw[←hW0];exact Hu.start w
 have hz0:w.heap.size+3=W0.heap.size:=by rw[←hW0];simp
 clear hG
 go_enter Tryz.func33,Tryz.ntmps33
 go_wp2_with fail
 clear hW0
 refine(Iy s W0 (HG.out.below S0.out.bel) (by omega)).mono ?_;rintro e w1 ⟨A,n,c,f,x,code,rfl,hb1,hm⟩
 have S1:=ae (S0.out.step hb1)
 have HM:=ae hm
 clear hb1 hm S0
 unfold gB
 obtain⟨⟨t0,t1,t2,t3,t4,t5,t6⟩,⟨f0,f1,f2⟩,⟨r0,r1,r2,r3,r4,r5,r6⟩,ft,ff,fr⟩:=S1.out.cells
 have ft0:=ft 0 (by omega)
 have ft1:=ft 1 (by omega)
 have ft2:=ft 2 (by omega)
 have ft3:=ft 3 (by omega)
 have ft4:=ft 4 (by omega)
 have ft5:=ft 5 (by omega)
 have ft6:=ft 6 (by omega)
 have ff0:=ff 0 (by omega)
 have ff1:=ff 1 (by omega)
 have ff2:=ff 2 (by omega)
 have fr0:=fr 0 (by omega)
 have fr1:=fr 1 (by omega)
 have fr2:=fr 2 (by omega)
 have fr3:=fr 3 (by omega)
 have fr4:=fr 4 (by omega)
 have fr5:=fr 5 (by omega)
 have fr6:=fr 6 (by omega)
 clear ft ff fr
 go_wp2_with fail
 go_region
 go_wp2_with fail
 refine bodyPost_ret (Jp (W:=Jo (w1.setCell ⟨w.heap.size+1,6,none⟩ (.slice A n c)) (w.heap.size+2) (.string f) (.int .i64 x) (.int .i64 code)) ?_ rfl rfl none 0 0 ⟨#[]⟩ ⟨#[]⟩ 0 ⟨#[]⟩ none 0 0 A n c) rfl ?_
 ·exact((S1.out.r.grownBy (Dx _ _ _ _) (by simp)).grownBy (oP _ _ _ _ _) (by simp))
 refine⟨none,0,0,rZ,A,n,c,code,rfl,(qF (qG (aw S1.out.bel (by omega) _) (by omega) _ _ _) lr _ _ _ _ _ _ _).drew,?_⟩
 have hm:=HM.out
 cases hd:eR (bl s) with
 | none=>rw[hd] at hm;exact⟨fun h=>absurd h (by decide),fun h=>absurd h (by decide),fun _=>by unfold UG;rw[hd];exact hm.1,fun _ h=>absurd h (by decide),fun _ h=>absurd h (by decide),fun L _ h=>(by rw[hd] at h;cases h)⟩
 | some L=>
  rw[hd] at hm
  obtain⟨h0,hn,hO⟩:=hm
  have k1:=dh (g:=w.heap.size+1) hO (by omega) (Dx w1 (w.heap.size+1) 6 (.slice A n c))
  have k2:=dh (g:=w.heap.size+2) k1 (by omega) (oP _ (w.heap.size+2) (.string f) (.int .i64 x) (.int .i64 code))
  have k3:=dh (g:=w.heap.size) k2 (by omega) (Dy _ w.heap.size (.slice none 0 0) (.string ⟨#[]⟩) (.string ⟨#[]⟩) (.int .i64 0) (.string ⟨#[]⟩) (.slice none 0 0) (.slice A n c))
  have hr:=ui ((bl s).length+1) 0 (bl s) L (by omega) hd
  have k4:=cN (base':=w.heap.size) (aR k3 (kQ bR)) (by omega)
  exact⟨fun h=>absurd h (by decide),fun h=>absurd h (by decide),fun _=>by unfold UG;rw[hd];exact⟨h0,hn,bA k4,by have:=hr.2;omega,hr.1⟩,fun _ h=>absurd h (by decide),fun _ h=>absurd h (by decide),fun L' _ h=>(by have h2:=Option.some.inj (hd.symm.trans h);exact h2 ▸ k4)⟩
end
end Go.Proofs.YtkjdbpjglobbjaaGreatDoor
