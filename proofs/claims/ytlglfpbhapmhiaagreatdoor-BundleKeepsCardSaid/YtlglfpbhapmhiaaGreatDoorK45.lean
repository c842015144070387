/- A part of the proof. -/
import Derived.Test.YtlglfpbhapmhiaaGreatDoorK43
import Derived.Test.YtlglfpbhapmhiaaGreatDoorK44
set_option maxRecDepth 100000
set_option maxHeartbeats 20000000
set_option linter.unusedVariables false
set_option linter.unusedSimpArgs false
namespace Go.Proofs.YtlglfpbhapmhiaaGreatDoor
section
open Go.RowKit Go.Maps
def aP:LV:=[.string ⟨#[]⟩,.string ⟨#[]⟩,.string ⟨#[]⟩,.string ⟨#[]⟩,.slice none 0 0,.slice none 0 0,.slice none 0 0,.slice none 0 0,.slice none 0 0,.slice none 0 0,.slice none 0 0]
def L9:Value:=.agg #[.string ⟨#[]⟩,.string ⟨#[]⟩,.string ⟨#[]⟩,.string ⟨#[]⟩,.slice none 0 0,.slice none 0 0,.slice none 0 0,.slice none 0 0,.slice none 0 0,.slice none 0 0,.slice none 0 0]
structure Jj (w wr:World) (b:dt):Prop where
 bu:av wr w.heap.size b.cells
 r1:av wr (w.heap.size+1) aP
 r2:av wr (w.heap.size+1+1) [.string ⟨#[]⟩,.string ⟨#[]⟩,.int .i64 0]
 bel:Below w.heap.size w wr
theorem Jj.step {w wr w':World}{b:dt}(h:Jj w wr b)(hb:Below wr.heap.size wr w'):Jj w w' b:=⟨h.bu.below hb,h.r1.below hb,h.r2.below hb,ap h.bel hb⟩
theorem Jj.start (w:World)(b:dt):Jj w (((w.alloc (.cells #[.string b.pk.nm,.string b.pk.ver,.string b.pk.ar,.string b.pk.sm,.slice b.pk.na b.pk.needs.length b.pk.nc,.slice b.pk.ba b.pk.bars.length b.pk.bc,.slice b.pk.ga b.pk.gives.length b.pk.gc,.slice b.pk.fa b.pk.files.length b.pk.fc,.slice b.pk.sa b.pk.scripts.length b.pk.sc,.slice b.ca b.conf.length b.cc,.slice b.ea b.ents.length b.ec] 30)).alloc (.cells #[.string ⟨#[]⟩,.string ⟨#[]⟩,.string ⟨#[]⟩,.string ⟨#[]⟩,.slice none 0 0,.slice none 0 0,.slice none 0 0,.slice none 0 0,.slice none 0 0,.slice none 0 0,.slice none 0 0] 30)).alloc (.cells #[.string ⟨#[]⟩,.string ⟨#[]⟩,.int .i64 0] 38)) b:=by
 have h1:=av.new (w.alloc (.cells #[.string b.pk.nm,.string b.pk.ver,.string b.pk.ar,.string b.pk.sm,.slice b.pk.na b.pk.needs.length b.pk.nc,.slice b.pk.ba b.pk.bars.length b.pk.bc,.slice b.pk.ga b.pk.gives.length b.pk.gc,.slice b.pk.fa b.pk.files.length b.pk.fc,.slice b.pk.sa b.pk.scripts.length b.pk.sc,.slice b.ca b.conf.length b.cc,.slice b.ea b.ents.length b.ec] 30)) aP 30
 have h2:=av.new ((w.alloc (.cells #[.string b.pk.nm,.string b.pk.ver,.string b.pk.ar,.string b.pk.sm,.slice b.pk.na b.pk.needs.length b.pk.nc,.slice b.pk.ba b.pk.bars.length b.pk.bc,.slice b.pk.ga b.pk.gives.length b.pk.gc,.slice b.pk.fa b.pk.files.length b.pk.fc,.slice b.pk.sa b.pk.scripts.length b.pk.sc,.slice b.ca b.conf.length b.cc,.slice b.ea b.ents.length b.ec] 30)).alloc (.cells #[.string ⟨#[]⟩,.string ⟨#[]⟩,.string ⟨#[]⟩,.string ⟨#[]⟩,.slice none 0 0,.slice none 0 0,.slice none 0 0,.slice none 0 0,.slice none 0 0,.slice none 0 0,.slice none 0 0] 30)) [.string ⟨#[]⟩,.string ⟨#[]⟩,.int .i64 0] 38
 simp only[World.size_alloc] at h1 h2
 exact⟨((av.new w b.cells _).alloc _).alloc _,h1.alloc _,h2,((bR.alloc lr _).alloc (by simp) _).alloc (by simp;omega) _⟩
theorem IR {tmps:Array Value}{W:World}{c1 c2:Nat}{a0 a1 a2 a3 a4 a5 a6 a7 a8 a9 a10 r0 r1 r2:Value}(h4:tmps[4]?=some (.pointer (some ⟨c1,0,none⟩)))(h5:tmps[5]?=some (.pointer (some ⟨c2,0,none⟩)))(Z:av W c1 [a0,a1,a2,a3,a4,a5,a6,a7,a8,a9,a10])(R:av W c2 [r0,r1,r2]):
  (results Tryz.f8 tmps).run Tryz.prog W=.ok (.tuple #[.agg #[a0,a1,a2,a3,a4,a5,a6,a7,a8,a9,a10],.agg #[r0,r1,r2]]) W:=by
 have v0:=Z.cell 0 _ rfl
 have v1:=Z.cell 1 _ rfl
 have v2:=Z.cell 2 _ rfl
 have v3:=Z.cell 3 _ rfl
 have v4:=Z.cell 4 _ rfl
 have v5:=Z.cell 5 _ rfl
 have v6:=Z.cell 6 _ rfl
 have v7:=Z.cell 7 _ rfl
 have v8:=Z.cell 8 _ rfl
 have v9:=Z.cell 9 _ rfl
 have v10:=Z.cell 10 _ rfl
 have u0:=R.cell 0 _ rfl
 have u1:=R.cell 1 _ rfl
 have u2:=R.cell 2 _ rfl
 simp(maxDischargeDepth:=16) [results,Tryz.results8,h4,h5,go_sem,v0,v1,v2,v3,v4,v5,v6,v7,v8,v9,v10,u0,u1,u2]
theorem vv {fmt:Int}{b:dt}(h:(kG fmt b).2=0):b.pk.files=[]∧(jb fmt b.pk).2=0∧b.ents.length≤512∧(pt b.ents).2=0∧(eX fmt b.ents).2=0∧wU fmt b.conf b.ents=true:=by
 have hf:=(CU h).2
 unfold kG at h
 split at h
 ·simp at h
 split at h
 ·rename_i h2;exact absurd h h2
 rename_i h2
 split at h
 ·simp at h
 rename_i h3
 split at h
 ·rename_i h4;exact absurd h h4
 rename_i h4
 split at h
 ·rename_i h5;exact absurd h h5
 rename_i h5
 split at h
 ·simp at h
 rename_i h6
 exact⟨hf,by simpa using h2,by omega,by simpa using h4,by simpa using h5,by simpa using h6⟩
def KQ (q:bN)(Ac:OA)(nc cc:Nat)(A:OA)(n c:Nat):Value:=.agg #[.string q.nm,.string q.ver,.string q.ar,.string q.sm,.slice q.na q.needs.length q.nc,.slice q.ba q.bars.length q.bc,.slice q.ga q.gives.length q.gc,.slice q.fa q.files.length q.fc,.slice q.sa q.scripts.length q.sc,.slice Ac nc cc,.slice A n c]
def Ma (fmt:Int)(b:dt)(w:World)(e:Ending)(w':World):Prop:=
 Below w.heap.size w w'∧(((kG fmt b).2≠0∧e=.returned (.tuple #[L9,tr fmt b])) ∨
 ((kG fmt b).2=0∧∃ (q:bN)(Ac A:OA)(cc c:Nat)(m0 m:List am),e=.returned (.tuple #[KQ q Ac b.conf.length cc A b.ents.length c,.agg #[.string ⟨#[]⟩,.string ⟨#[]⟩,.int .i64 0]])∧b.pk.alike q∧fP q w' (w.heap.size+3) ∧
   w'.ownsRow (w.heap.size+3) 9 1 (.slice Ac b.conf.length cc) b.conf.length (az b.conf) ∧
   m0.length=b.ents.length∧(∀ (i:Nat)(x y:am),b.ents[i]?=some x→m0[i]?=some y→(pi b.ents i x).same y)∧m.Perm m0∧m.Pairwise (fun x y=>¬ bl y.path<bl x.path) ∧
   w'.ownsRow (w.heap.size+3) 35 10 (.slice A b.ents.length c) b.ents.length (m.flatMap am.cells)∧∀ y∈m,y.own w' (w.heap.size+3)))
theorem Jj.ten {w wr:World}{b:dt}(h:Jj w wr b):wr.cell? ⟨w.heap.size,0,none⟩=some (.string b.pk.nm)∧wr.cell? ⟨w.heap.size,1,none⟩=some (.string b.pk.ver)∧wr.cell? ⟨w.heap.size,2,none⟩=some (.string b.pk.ar)∧wr.cell? ⟨w.heap.size,3,none⟩=some (.string b.pk.sm)∧wr.cell? ⟨w.heap.size,4,none⟩=some (.slice b.pk.na b.pk.needs.length b.pk.nc)∧wr.cell? ⟨w.heap.size,5,none⟩=some (.slice b.pk.ba b.pk.bars.length b.pk.bc)∧wr.cell? ⟨w.heap.size,6,none⟩=some (.slice b.pk.ga b.pk.gives.length b.pk.gc)∧wr.cell? ⟨w.heap.size,7,none⟩=some (.slice b.pk.fa b.pk.files.length b.pk.fc)∧wr.cell? ⟨w.heap.size,8,none⟩=some (.slice b.pk.sa b.pk.scripts.length b.pk.sc)∧wr.cell? ⟨w.heap.size,9,none⟩=some (.slice b.ca b.conf.length b.cc):=
 ⟨h.bu.cell 0 _ rfl,h.bu.cell 1 _ rfl,h.bu.cell 2 _ rfl,h.bu.cell 3 _ rfl,h.bu.cell 4 _ rfl,h.bu.cell 5 _ rfl,h.bu.cell 6 _ rfl,h.bu.cell 7 _ rfl,h.bu.cell 8 _ rfl,h.bu.cell 9 _ rfl⟩
theorem Kp {w wr:World}{b:dt}{c j:Nat}{v:Value}(hc:w.heap.size<c)(h:wr.cell? ⟨w.heap.size,0,none⟩=some (.string b.pk.nm)∧wr.cell? ⟨w.heap.size,1,none⟩=some (.string b.pk.ver)∧wr.cell? ⟨w.heap.size,2,none⟩=some (.string b.pk.ar)∧wr.cell? ⟨w.heap.size,3,none⟩=some (.string b.pk.sm)∧wr.cell? ⟨w.heap.size,4,none⟩=some (.slice b.pk.na b.pk.needs.length b.pk.nc)∧wr.cell? ⟨w.heap.size,5,none⟩=some (.slice b.pk.ba b.pk.bars.length b.pk.bc)∧wr.cell? ⟨w.heap.size,6,none⟩=some (.slice b.pk.ga b.pk.gives.length b.pk.gc)∧wr.cell? ⟨w.heap.size,7,none⟩=some (.slice b.pk.fa b.pk.files.length b.pk.fc)∧wr.cell? ⟨w.heap.size,8,none⟩=some (.slice b.pk.sa b.pk.scripts.length b.pk.sc)∧wr.cell? ⟨w.heap.size,9,none⟩=some (.slice b.ca b.conf.length b.cc)):(wr.setCell ⟨c,j,none⟩ v).cell? ⟨w.heap.size,0,none⟩=some (.string b.pk.nm)∧(wr.setCell ⟨c,j,none⟩ v).cell? ⟨w.heap.size,1,none⟩=some (.string b.pk.ver)∧(wr.setCell ⟨c,j,none⟩ v).cell? ⟨w.heap.size,2,none⟩=some (.string b.pk.ar)∧(wr.setCell ⟨c,j,none⟩ v).cell? ⟨w.heap.size,3,none⟩=some (.string b.pk.sm)∧(wr.setCell ⟨c,j,none⟩ v).cell? ⟨w.heap.size,4,none⟩=some (.slice b.pk.na b.pk.needs.length b.pk.nc)∧(wr.setCell ⟨c,j,none⟩ v).cell? ⟨w.heap.size,5,none⟩=some (.slice b.pk.ba b.pk.bars.length b.pk.bc)∧(wr.setCell ⟨c,j,none⟩ v).cell? ⟨w.heap.size,6,none⟩=some (.slice b.pk.ga b.pk.gives.length b.pk.gc)∧(wr.setCell ⟨c,j,none⟩ v).cell? ⟨w.heap.size,7,none⟩=some (.slice b.pk.fa b.pk.files.length b.pk.fc)∧(wr.setCell ⟨c,j,none⟩ v).cell? ⟨w.heap.size,8,none⟩=some (.slice b.pk.sa b.pk.scripts.length b.pk.sc)∧(wr.setCell ⟨c,j,none⟩ v).cell? ⟨w.heap.size,9,none⟩=some (.slice b.ca b.conf.length b.cc):=by
 have k:∀ i,(wr.setCell ⟨c,j,none⟩ v).cell? ⟨w.heap.size,i,none⟩=wr.cell? ⟨w.heap.size,i,none⟩:=fun i=>World.cell?_setCell_far wr _ _ v (by show c≠w.heap.size;omega)
 simp only[k]
 exact h
structure MQ (W:World) (lo:Nat) (q:bN) (Ac:OA) (cc:Nat) (conf:List BA) (A:OA) (n c:Nat) (m:List am):Prop where
 pk:fP q W lo
 cf:W.ownsRow lo 9 1 (.slice Ac conf.length cc) conf.length (az conf)
 er:W.ownsRow lo 35 10 (.slice A n c) n (m.flatMap am.cells)
 eo:∀ y∈m,y.own W lo
theorem MQ.set {W:World}{lo b j:Nat}{q:bN}{Ac A:OA}{cc n c:Nat}{conf:List BA}{m:List am}(h:MQ W lo q Ac cc conf A n c m)(hb:b<lo)(v:Value):MQ (W.setCell ⟨b,j,none⟩ v) lo q Ac cc conf A n c m:=by
 have hg:W.grownBy (W.setCell ⟨b,j,none⟩ v) (some b):=an (World.grownBy.refl W (some b)) (.inl rfl) _
 exact⟨h.pk.kept hb hg,aJ h.cf hb hg,aJ h.er hb hg,fun y hy=>aJ (h.eo y hy) hb hg⟩
theorem wZ (fmt:Int)(b:dt)(w:World)(hG:wn w)(hb:b.ok w)(hs:b.small):
  Calls Tryz.prog 8 #[.int .i64 fmt,b.val] w (Ma fmt b w):=by
 have HG:=ae hG
 have HO:=ae hb
 have HS:=ae hs
 clear hG hb hs
 obtain⟨W0,hW0⟩:∃ W0,(((w.alloc (.cells #[.string b.pk.nm,.string b.pk.ver,.string b.pk.ar,.string b.pk.sm,.slice b.pk.na b.pk.needs.length b.pk.nc,.slice b.pk.ba b.pk.bars.length b.pk.bc,.slice b.pk.ga b.pk.gives.length b.pk.gc,.slice b.pk.fa b.pk.files.length b.pk.fc,.slice b.pk.sa b.pk.scripts.length b.pk.sc,.slice b.ca b.conf.length b.cc,.slice b.ea b.ents.length b.ec] 30)).alloc (.cells #[.string ⟨#[]⟩,.string ⟨#[]⟩,.string ⟨#[]⟩,.string ⟨#[]⟩,.slice none 0 0,.slice none 0 0,.slice none 0 0,.slice none 0 0,.slice none 0 0,.slice none 0 0,.slice none 0 0] 30)).alloc (.cells #[.string ⟨#[]⟩,.string ⟨#[]⟩,.int .i64 0] 38))=W0:=⟨_,rfl⟩
 have P0:Hid (Jj w W0 b):=by show Jj _ _ _;rw[←hW0];exact Jj.start w b
 have b0:=P0.out.bu.cell 0 _ rfl
 have b1:=P0.out.bu.cell 1 _ rfl
 have b2:=P0.out.bu.cell 2 _ rfl
 have b3:=P0.out.bu.cell 3 _ rfl
 have b4:=P0.out.bu.cell 4 _ rfl
 have b5:=P0.out.bu.cell 5 _ rfl
 have b6:=P0.out.bu.cell 6 _ rfl
 have b7:=P0.out.bu.cell 7 _ rfl
 have b8:=P0.out.bu.cell 8 _ rfl
 have b9:=P0.out.bu.cell 9 _ rfl
 have b10:=P0.out.bu.cell 10 _ rfl
 have BC:=kB fmt b W0 (HG.out.below P0.out.bel) (HO.out.below P0.out.bel) HS.out
 unfold dt.val at BC ⊢
 go_enter Tryz.func8,Tryz.ntmps8
 go_wp2_with fail
 clear hW0 b0 b1 b2 b3 b4 b5 b6 b7 b8 b9 b10
 refine BC.mono ?_;rintro e w1 ⟨rfl,hb1⟩
 have P1:=ae (P0.out.step hb1)
 clear hb1 BC P0
 by_cases hc:(kG fmt b).2=0
 case neg=>
  obtain⟨wh,hwh⟩:∃ wh,(kG fmt b).1=wh:=⟨_,rfl⟩
  obtain⟨code,hcd⟩:∃ code,(kG fmt b).2=code:=⟨_,rfl⟩
  have BV:tr fmt b=.agg #[.string b.pk.nm,.string wh,.int .i64 code]:=gb (by rw[←hwh,←hcd]) (by rw[←hcd];exact hc)
  have BVH:=ae BV
  rw[BV]
  have q:(code != 0)=true:=by rw[←hcd];simpa using hc
  have C:=ae hc
  clear hc hwh hcd BV
  have z0:=P1.out.r1.cell 0 _ rfl
  have z1:=P1.out.r1.cell 1 _ rfl
  have z2:=P1.out.r1.cell 2 _ rfl
  have z3:=P1.out.r1.cell 3 _ rfl
  have z4:=P1.out.r1.cell 4 _ rfl
  have z5:=P1.out.r1.cell 5 _ rfl
  have z6:=P1.out.r1.cell 6 _ rfl
  have z7:=P1.out.r1.cell 7 _ rfl
  have z8:=P1.out.r1.cell 8 _ rfl
  have z9:=P1.out.r1.cell 9 _ rfl
  have z10:=P1.out.r1.cell 10 _ rfl
  have f0:=P1.out.r1.free 0 (by simp[aP])
  have f1:=P1.out.r1.free 1 (by simp[aP])
  have f2:=P1.out.r1.free 2 (by simp[aP])
  have f3:=P1.out.r1.free 3 (by simp[aP])
  have f4:=P1.out.r1.free 4 (by simp[aP])
  have f5:=P1.out.r1.free 5 (by simp[aP])
  have f6:=P1.out.r1.free 6 (by simp[aP])
  have f7:=P1.out.r1.free 7 (by simp[aP])
  have f8:=P1.out.r1.free 8 (by simp[aP])
  have f9:=P1.out.r1.free 9 (by simp[aP])
  have f10:=P1.out.r1.free 10 (by simp[aP])
  have r0:=P1.out.r2.cell 0 _ rfl
  have r1:=P1.out.r2.cell 1 _ rfl
  have r2:=P1.out.r2.cell 2 _ rfl
  have g0:=P1.out.r2.free 0 (by simp)
  have g1:=P1.out.r2.free 1 (by simp)
  have g2:=P1.out.r2.free 2 (by simp)
  have hz1:=P1.out.r1.sz
  have hz2:=P1.out.r2.sz
  go_wp2_with fail
  go_region
  go_wp2_with fail
  have ZF:av ((((((((((((((((w1.setCell ⟨w.heap.size+1,0,none⟩ (.string ⟨#[]⟩)).setCell ⟨w.heap.size+1,1,none⟩ (.string ⟨#[]⟩)).setCell ⟨w.heap.size+1,2,none⟩ (.string ⟨#[]⟩)).setCell ⟨w.heap.size+1,3,none⟩ (.string ⟨#[]⟩)).setCell ⟨w.heap.size+1,4,none⟩ (.slice none 0 0)).setCell ⟨w.heap.size+1,5,none⟩ (.slice none 0 0)).setCell ⟨w.heap.size+1,6,none⟩ (.slice none 0 0)).setCell ⟨w.heap.size+1,7,none⟩ (.slice none 0 0)).setCell ⟨w.heap.size+1,8,none⟩ (.slice none 0 0)).setCell ⟨w.heap.size+1,9,none⟩ (.slice none 0 0)).setCell ⟨w.heap.size+1,10,none⟩ (.slice none 0 0)).setCell ⟨w.heap.size+1+1,0,none⟩ (.string b.pk.nm)).setCell ⟨w.heap.size+1+1,1,none⟩ (.string wh)).setCell ⟨w.heap.size+1+1,2,none⟩ (.int .i64 code))).alloc (.cells #[.string b.pk.nm,.string wh,.int .i64 code] 38)).drew (w.heap.size+1) aP:=(((((((((((((((P1.out.r1.set 0 (by simp[aP]) (.string ⟨#[]⟩)).set 1 (by simp[aP]) (.string ⟨#[]⟩)).set 2 (by simp[aP]) (.string ⟨#[]⟩)).set 3 (by simp[aP]) (.string ⟨#[]⟩)).set 4 (by simp[aP]) (.slice none 0 0)).set 5 (by simp[aP]) (.slice none 0 0)).set 6 (by simp[aP]) (.slice none 0 0)).set 7 (by simp[aP]) (.slice none 0 0)).set 8 (by simp[aP]) (.slice none 0 0)).set 9 (by simp[aP]) (.slice none 0 0)).set 10 (by simp[aP]) (.slice none 0 0)).far (by omega) _).far (by omega) _).far (by omega) _).alloc _).drew
  have RF:av ((((((((((((((((w1.setCell ⟨w.heap.size+1,0,none⟩ (.string ⟨#[]⟩)).setCell ⟨w.heap.size+1,1,none⟩ (.string ⟨#[]⟩)).setCell ⟨w.heap.size+1,2,none⟩ (.string ⟨#[]⟩)).setCell ⟨w.heap.size+1,3,none⟩ (.string ⟨#[]⟩)).setCell ⟨w.heap.size+1,4,none⟩ (.slice none 0 0)).setCell ⟨w.heap.size+1,5,none⟩ (.slice none 0 0)).setCell ⟨w.heap.size+1,6,none⟩ (.slice none 0 0)).setCell ⟨w.heap.size+1,7,none⟩ (.slice none 0 0)).setCell ⟨w.heap.size+1,8,none⟩ (.slice none 0 0)).setCell ⟨w.heap.size+1,9,none⟩ (.slice none 0 0)).setCell ⟨w.heap.size+1,10,none⟩ (.slice none 0 0)).setCell ⟨w.heap.size+1+1,0,none⟩ (.string b.pk.nm)).setCell ⟨w.heap.size+1+1,1,none⟩ (.string wh)).setCell ⟨w.heap.size+1+1,2,none⟩ (.int .i64 code))).alloc (.cells #[.string b.pk.nm,.string wh,.int .i64 code] 38)).drew (w.heap.size+1+1) [.string b.pk.nm,.string wh,.int .i64 code]:=(((((((((((((((P1.out.r2.far (by omega) _).far (by omega) _).far (by omega) _).far (by omega) _).far (by omega) _).far (by omega) _).far (by omega) _).far (by omega) _).far (by omega) _).far (by omega) _).far (by omega) _).set 0 (by simp) (.string b.pk.nm)).set 1 (by simp) (.string wh)).set 2 (by simp) (.int .i64 code)).alloc _).drew
  have LF:Below w.heap.size w ((((((((((((((((w1.setCell ⟨w.heap.size+1,0,none⟩ (.string ⟨#[]⟩)).setCell ⟨w.heap.size+1,1,none⟩ (.string ⟨#[]⟩)).setCell ⟨w.heap.size+1,2,none⟩ (.string ⟨#[]⟩)).setCell ⟨w.heap.size+1,3,none⟩ (.string ⟨#[]⟩)).setCell ⟨w.heap.size+1,4,none⟩ (.slice none 0 0)).setCell ⟨w.heap.size+1,5,none⟩ (.slice none 0 0)).setCell ⟨w.heap.size+1,6,none⟩ (.slice none 0 0)).setCell ⟨w.heap.size+1,7,none⟩ (.slice none 0 0)).setCell ⟨w.heap.size+1,8,none⟩ (.slice none 0 0)).setCell ⟨w.heap.size+1,9,none⟩ (.slice none 0 0)).setCell ⟨w.heap.size+1,10,none⟩ (.slice none 0 0)).setCell ⟨w.heap.size+1+1,0,none⟩ (.string b.pk.nm)).setCell ⟨w.heap.size+1+1,1,none⟩ (.string wh)).setCell ⟨w.heap.size+1+1,2,none⟩ (.int .i64 code))).alloc (.cells #[.string b.pk.nm,.string wh,.int .i64 code] 38)).drew:=ci ((ag (ag (ag (ag (ag (ag (ag (ag (ag (ag (ag (ag (ag (ag P1.out.bel (by omega) _) (by omega) _) (by omega) _) (by omega) _) (by omega) _) (by omega) _) (by omega) _) (by omega) _) (by omega) _) (by omega) _) (by omega) _) (by omega) _) (by omega) _) (by omega) _).alloc (by have:=P1.out.bel.size;simpa using this) _)
  generalize ((((((((((((((((w1.setCell ⟨w.heap.size+1,0,none⟩ (.string ⟨#[]⟩)).setCell ⟨w.heap.size+1,1,none⟩ (.string ⟨#[]⟩)).setCell ⟨w.heap.size+1,2,none⟩ (.string ⟨#[]⟩)).setCell ⟨w.heap.size+1,3,none⟩ (.string ⟨#[]⟩)).setCell ⟨w.heap.size+1,4,none⟩ (.slice none 0 0)).setCell ⟨w.heap.size+1,5,none⟩ (.slice none 0 0)).setCell ⟨w.heap.size+1,6,none⟩ (.slice none 0 0)).setCell ⟨w.heap.size+1,7,none⟩ (.slice none 0 0)).setCell ⟨w.heap.size+1,8,none⟩ (.slice none 0 0)).setCell ⟨w.heap.size+1,9,none⟩ (.slice none 0 0)).setCell ⟨w.heap.size+1,10,none⟩ (.slice none 0 0)).setCell ⟨w.heap.size+1+1,0,none⟩ (.string b.pk.nm)).setCell ⟨w.heap.size+1+1,1,none⟩ (.string wh)).setCell ⟨w.heap.size+1+1,2,none⟩ (.int .i64 code))).alloc (.cells #[.string b.pk.nm,.string wh,.int .i64 code] 38)).drew=WF at *
  exact bodyPost_ret (IR rfl rfl ZF RF) rfl ⟨LF,.inl ⟨C.out,by rw[BVH.out];rfl⟩⟩
 have BV:tr fmt b=.agg #[.string ⟨#[]⟩,.string ⟨#[]⟩,.int .i64 0]:=by unfold tr Ji;rw[if_pos hc];rfl
 rw[BV]
 have C:=ae hc
 clear hc BV
 have b10:=P1.out.bu.cell 10 _ rfl
 have hz:=P1.out.bu.sz
 go_wp2_with fail
 have P2:=ae (P1.out.step (show Below w1.heap.size w1 (w1.alloc (.cells #[.string ⟨#[]⟩,.string ⟨#[]⟩,.int .i64 0] 38)) from bR.alloc lr _))
 refine(zw b.ea b.ec b.ents (w1.alloc (.cells #[.string ⟨#[]⟩,.string ⟨#[]⟩,.int .i64 0] 38)) (HG.out.1.below P2.out.bel) (HO.out.ents.below P2.out.bel) HS.out.ents HS.out.ents_).mono ?_
 rintro e w3 ⟨hb3,⟨hbad,_⟩ | ⟨hok,A,c,m0,m,rfl,hml,hms,hmp,hmo,hmr,hmd⟩⟩
 ·exact absurd (vv C.out).2.2.2.1 hbad
 have P3:=ae (P2.out.step hb3)
 have hlo:w.heap.size+3≤(w1.alloc (.cells #[.string ⟨#[]⟩,.string ⟨#[]⟩,.int .i64 0] 38)).heap.size:=by have:=P1.out.r2.sz;simp;omega
 have ML:=ae hml
 have MS:=ae hms
 have MP:=ae hmp
 have MO:=ae hmo
 have MR:=ae (aN hmr hlo)
 have MD:Hid (∀ y∈m,y.own w3 (w.heap.size+3)):=fun y hy=>aN (hmd y hy) hlo
 clear hb3 hok hml hms hmp hmo hmr hmd hlo P1 P2 b10 hz
 have b0:=P3.out.bu.cell 0 _ rfl
 have b1:=P3.out.bu.cell 1 _ rfl
 have b2:=P3.out.bu.cell 2 _ rfl
 have b3:=P3.out.bu.cell 3 _ rfl
 have b4:=P3.out.bu.cell 4 _ rfl
 have b5:=P3.out.bu.cell 5 _ rfl
 have b6:=P3.out.bu.cell 6 _ rfl
 have b7:=P3.out.bu.cell 7 _ rfl
 have b8:=P3.out.bu.cell 8 _ rfl
 have b9:=P3.out.bu.cell 9 _ rfl
 have hz:=P3.out.bu.sz
 go_wp2_with fail
 have P3D:=ae (P3.out.step (ci (Below.refl _ w3)))
 have hcl:b.conf.length≤100000:=HS.out.conf
 go_region_held3 (fun w'=>w'.cell? ⟨w.heap.size,0,none⟩=some (.string b.pk.nm)∧w'.cell? ⟨w.heap.size,1,none⟩=some (.string b.pk.ver)∧w'.cell? ⟨w.heap.size,2,none⟩=some (.string b.pk.ar)∧w'.cell? ⟨w.heap.size,3,none⟩=some (.string b.pk.sm)∧w'.cell? ⟨w.heap.size,4,none⟩=some (.slice b.pk.na b.pk.needs.length b.pk.nc)∧w'.cell? ⟨w.heap.size,5,none⟩=some (.slice b.pk.ba b.pk.bars.length b.pk.bc)∧w'.cell? ⟨w.heap.size,6,none⟩=some (.slice b.pk.ga b.pk.gives.length b.pk.gc)∧w'.cell? ⟨w.heap.size,7,none⟩=some (.slice b.pk.fa b.pk.files.length b.pk.fc)∧w'.cell? ⟨w.heap.size,8,none⟩=some (.slice b.pk.sa b.pk.scripts.length b.pk.sc)∧w'.cell? ⟨w.heap.size,9,none⟩=some (.slice b.ca b.conf.length b.cc))
  (first
    | with_reducible exact P3D.out.ten
    | with_reducible exact P5.out.ten
    | with_reducible exact P6.out.ten
    | (repeat (with_reducible refine Kp (by omega) ?_));(first | with_reducible exact P5.out.ten | with_reducible exact P6.out.ten))
  (first
    | (go_at_call 19;first | (have PK:=lx b.pk (w6) (HO.out.pk.below P6.out.bel) HS.out.few;unfold bN.val at PK;(with_reducible refine PK.mono ?_);rintro e w5 ⟨q,rfl,hal,hown,hb5⟩;have P5:=ae (P6.out.step hb5);have P5D:=ae (P5.out.step (ci (Below.refl _ w5)));have OW:=ae (hown.base (lo':=w.heap.size+3) (by have:=P6.out.r2.sz;omega));have AL:=ae hal;clear PK hown hal;unfold bN.val;have y0:=P5.out.r1.cell 0 _ rfl;have yf0:=P5.out.r1.free 0 (by simp[aP]);have y1:=P5.out.r1.cell 1 _ rfl;have yf1:=P5.out.r1.free 1 (by simp[aP]);have y2:=P5.out.r1.cell 2 _ rfl;have yf2:=P5.out.r1.free 2 (by simp[aP]);have y3:=P5.out.r1.cell 3 _ rfl;have yf3:=P5.out.r1.free 3 (by simp[aP]);have y4:=P5.out.r1.cell 4 _ rfl;have yf4:=P5.out.r1.free 4 (by simp[aP]);have y5:=P5.out.r1.cell 5 _ rfl;have yf5:=P5.out.r1.free 5 (by simp[aP]);have y6:=P5.out.r1.cell 6 _ rfl;have yf6:=P5.out.r1.free 6 (by simp[aP]);have y7:=P5.out.r1.cell 7 _ rfl;have yf7:=P5.out.r1.free 7 (by simp[aP]);have y8:=P5.out.r1.cell 8 _ rfl;have yf8:=P5.out.r1.free 8 (by simp[aP]);have y9:=P5.out.r1.cell 9 _ rfl;have yf9:=P5.out.r1.free 9 (by simp[aP]);have y10:=P5.out.r1.cell 10 _ rfl;have yf10:=P5.out.r1.free 10 (by simp[aP]);have s0:=P5.out.r2.cell 0 _ rfl;have sf0:=P5.out.r2.free 0 (by simp);have s1:=P5.out.r2.cell 1 _ rfl;have sf1:=P5.out.r2.free 1 (by simp);have s2:=P5.out.r2.cell 2 _ rfl;have sf2:=P5.out.r2.free 2 (by simp);have yz:=P5.out.r1.sz;have sz:=P5.out.r2.sz) | (have PK:=lx b.pk (w3.drew) (HO.out.pk.below P3D.out.bel) HS.out.few;unfold bN.val at PK;(with_reducible refine PK.mono ?_);rintro e w5 ⟨q,rfl,hal,hown,hb5⟩;have P5:=ae (P3D.out.step hb5);have P5D:=ae (P5.out.step (ci (Below.refl _ w5)));have OW:=ae (hown.base (lo':=w.heap.size+3) (by have:=P3D.out.r2.sz;omega));have AL:=ae hal;clear PK hown hal;unfold bN.val))
    | (go_at_call 28;first | ((with_reducible refine(vq b.ca b.cc b.conf (w3.drew) (HO.out.conf.below P3D.out.bel) hcl).mono ?_);rintro e w6 ⟨v,rfl,hcv,hb6⟩;obtain⟨Ac,cc,rfl⟩:=aL hcv;have P6:=ae (P3D.out.step hb6);have P6D:=ae (P6.out.step (ci (Below.refl _ w6)));have OC:=ae (aN (base':=w.heap.size+3) hcv (by have:=P3D.out.r2.sz;omega));clear hcv) | ((with_reducible refine(vq b.ca b.cc b.conf (w5) (HO.out.conf.below P5.out.bel) hcl).mono ?_);rintro e w6 ⟨v,rfl,hcv,hb6⟩;obtain⟨Ac,cc,rfl⟩:=aL hcv;have P6:=ae (P5.out.step hb6);have P6D:=ae (P6.out.step (ci (Below.refl _ w6)));have OC:=ae (aN (base':=w.heap.size+3) hcv (by have:=P5.out.r2.sz;omega));clear hcv;have y0:=P6.out.r1.cell 0 _ rfl;have yf0:=P6.out.r1.free 0 (by simp[aP]);have y1:=P6.out.r1.cell 1 _ rfl;have yf1:=P6.out.r1.free 1 (by simp[aP]);have y2:=P6.out.r1.cell 2 _ rfl;have yf2:=P6.out.r1.free 2 (by simp[aP]);have y3:=P6.out.r1.cell 3 _ rfl;have yf3:=P6.out.r1.free 3 (by simp[aP]);have y4:=P6.out.r1.cell 4 _ rfl;have yf4:=P6.out.r1.free 4 (by simp[aP]);have y5:=P6.out.r1.cell 5 _ rfl;have yf5:=P6.out.r1.free 5 (by simp[aP]);have y6:=P6.out.r1.cell 6 _ rfl;have yf6:=P6.out.r1.free 6 (by simp[aP]);have y7:=P6.out.r1.cell 7 _ rfl;have yf7:=P6.out.r1.free 7 (by simp[aP]);have y8:=P6.out.r1.cell 8 _ rfl;have yf8:=P6.out.r1.free 8 (by simp[aP]);have y9:=P6.out.r1.cell 9 _ rfl;have yf9:=P6.out.r1.free 9 (by simp[aP]);have y10:=P6.out.r1.cell 10 _ rfl;have yf10:=P6.out.r1.free 10 (by simp[aP]);have s0:=P6.out.r2.cell 0 _ rfl;have sf0:=P6.out.r2.free 0 (by simp);have s1:=P6.out.r2.cell 1 _ rfl;have sf1:=P6.out.r2.free 1 (by simp);have s2:=P6.out.r2.cell 2 _ rfl;have sf2:=P6.out.r2.free 2 (by simp);have yz:=P6.out.r1.sz;have sz:=P6.out.r2.sz)))
 have L56:Hid (Below w5.heap.size w5 w6):=hb6
 have L35:Hid (Below w3.heap.size w3 w5):=⟨hb5.os,hb5.tape,hb5.output,hb5.size,hb5.block⟩
 have R6:Hid (MQ w6 (w.heap.size+3) q Ac cc b.conf A b.ents.length c m):=⟨OW.out.below L56.out,OC.out,aD (aD MR.out L35.out) L56.out,fun y hy=>aD (aD (MD.out y hy) L35.out) L56.out⟩
 clear hb5 hb6 b0 b1 b2 b3 b4 b5 b6 b7 b8 b9 y0 yf0 y1 yf1 y2 yf2 y3 yf3 y4 yf4 y5 yf5 y6 yf6 y7 yf7 y8 yf8 y9 yf9 y10 yf10 s0 s1 s2 sf0 sf1 sf2
 have ZF:av ((((((((((((((w6.setCell ⟨w.heap.size+1,0,none⟩ (.string q.nm)).setCell ⟨w.heap.size+1,1,none⟩ (.string q.ver)).setCell ⟨w.heap.size+1,2,none⟩ (.string q.ar)).setCell ⟨w.heap.size+1,3,none⟩ (.string q.sm)).setCell ⟨w.heap.size+1,4,none⟩ (.slice q.na q.needs.length q.nc)).setCell ⟨w.heap.size+1,5,none⟩ (.slice q.ba q.bars.length q.bc)).setCell ⟨w.heap.size+1,6,none⟩ (.slice q.ga q.gives.length q.gc)).setCell ⟨w.heap.size+1,7,none⟩ (.slice q.fa q.files.length q.fc)).setCell ⟨w.heap.size+1,8,none⟩ (.slice q.sa q.scripts.length q.sc)).setCell ⟨w.heap.size+1,9,none⟩ (.slice Ac b.conf.length cc)).setCell ⟨w.heap.size+1,10,none⟩ (.slice A b.ents.length c)).setCell ⟨w.heap.size+1+1,0,none⟩ (.string ⟨#[]⟩)).setCell ⟨w.heap.size+1+1,1,none⟩ (.string ⟨#[]⟩)).setCell ⟨w.heap.size+1+1,2,none⟩ (.int .i64 0)) (w.heap.size+1) [.string q.nm,.string q.ver,.string q.ar,.string q.sm,.slice q.na q.needs.length q.nc,.slice q.ba q.bars.length q.bc,.slice q.ga q.gives.length q.gc,.slice q.fa q.files.length q.fc,.slice q.sa q.scripts.length q.sc,.slice Ac b.conf.length cc,.slice A b.ents.length c]:=((((((((((((((P6.out.r1.set 0 (by simp[aP]) (.string q.nm)).set 1 (by simp[aP]) (.string q.ver)).set 2 (by simp[aP]) (.string q.ar)).set 3 (by simp[aP]) (.string q.sm)).set 4 (by simp[aP]) (.slice q.na q.needs.length q.nc)).set 5 (by simp[aP]) (.slice q.ba q.bars.length q.bc)).set 6 (by simp[aP]) (.slice q.ga q.gives.length q.gc)).set 7 (by simp[aP]) (.slice q.fa q.files.length q.fc)).set 8 (by simp[aP]) (.slice q.sa q.scripts.length q.sc)).set 9 (by simp[aP]) (.slice Ac b.conf.length cc)).set 10 (by simp[aP]) (.slice A b.ents.length c)).far (by omega) _).far (by omega) _).far (by omega) _)
 have RF:av ((((((((((((((w6.setCell ⟨w.heap.size+1,0,none⟩ (.string q.nm)).setCell ⟨w.heap.size+1,1,none⟩ (.string q.ver)).setCell ⟨w.heap.size+1,2,none⟩ (.string q.ar)).setCell ⟨w.heap.size+1,3,none⟩ (.string q.sm)).setCell ⟨w.heap.size+1,4,none⟩ (.slice q.na q.needs.length q.nc)).setCell ⟨w.heap.size+1,5,none⟩ (.slice q.ba q.bars.length q.bc)).setCell ⟨w.heap.size+1,6,none⟩ (.slice q.ga q.gives.length q.gc)).setCell ⟨w.heap.size+1,7,none⟩ (.slice q.fa q.files.length q.fc)).setCell ⟨w.heap.size+1,8,none⟩ (.slice q.sa q.scripts.length q.sc)).setCell ⟨w.heap.size+1,9,none⟩ (.slice Ac b.conf.length cc)).setCell ⟨w.heap.size+1,10,none⟩ (.slice A b.ents.length c)).setCell ⟨w.heap.size+1+1,0,none⟩ (.string ⟨#[]⟩)).setCell ⟨w.heap.size+1+1,1,none⟩ (.string ⟨#[]⟩)).setCell ⟨w.heap.size+1+1,2,none⟩ (.int .i64 0)) (w.heap.size+1+1) [.string ⟨#[]⟩,.string ⟨#[]⟩,.int .i64 0]:=((((((((((((((P6.out.r2.far (by omega) _).far (by omega) _).far (by omega) _).far (by omega) _).far (by omega) _).far (by omega) _).far (by omega) _).far (by omega) _).far (by omega) _).far (by omega) _).far (by omega) _).set 0 (by simp) (.string ⟨#[]⟩)).set 1 (by simp) (.string ⟨#[]⟩)).set 2 (by simp) (.int .i64 0))
 have LF:Below w.heap.size w ((((((((((((((w6.setCell ⟨w.heap.size+1,0,none⟩ (.string q.nm)).setCell ⟨w.heap.size+1,1,none⟩ (.string q.ver)).setCell ⟨w.heap.size+1,2,none⟩ (.string q.ar)).setCell ⟨w.heap.size+1,3,none⟩ (.string q.sm)).setCell ⟨w.heap.size+1,4,none⟩ (.slice q.na q.needs.length q.nc)).setCell ⟨w.heap.size+1,5,none⟩ (.slice q.ba q.bars.length q.bc)).setCell ⟨w.heap.size+1,6,none⟩ (.slice q.ga q.gives.length q.gc)).setCell ⟨w.heap.size+1,7,none⟩ (.slice q.fa q.files.length q.fc)).setCell ⟨w.heap.size+1,8,none⟩ (.slice q.sa q.scripts.length q.sc)).setCell ⟨w.heap.size+1,9,none⟩ (.slice Ac b.conf.length cc)).setCell ⟨w.heap.size+1,10,none⟩ (.slice A b.ents.length c)).setCell ⟨w.heap.size+1+1,0,none⟩ (.string ⟨#[]⟩)).setCell ⟨w.heap.size+1+1,1,none⟩ (.string ⟨#[]⟩)).setCell ⟨w.heap.size+1+1,2,none⟩ (.int .i64 0)):=(ag (ag (ag (ag (ag (ag (ag (ag (ag (ag (ag (ag (ag (ag P6.out.bel (by omega) _) (by omega) _) (by omega) _) (by omega) _) (by omega) _) (by omega) _) (by omega) _) (by omega) _) (by omega) _) (by omega) _) (by omega) _) (by omega) _) (by omega) _) (by omega) _)
 have HR:MQ ((((((((((((((w6.setCell ⟨w.heap.size+1,0,none⟩ (.string q.nm)).setCell ⟨w.heap.size+1,1,none⟩ (.string q.ver)).setCell ⟨w.heap.size+1,2,none⟩ (.string q.ar)).setCell ⟨w.heap.size+1,3,none⟩ (.string q.sm)).setCell ⟨w.heap.size+1,4,none⟩ (.slice q.na q.needs.length q.nc)).setCell ⟨w.heap.size+1,5,none⟩ (.slice q.ba q.bars.length q.bc)).setCell ⟨w.heap.size+1,6,none⟩ (.slice q.ga q.gives.length q.gc)).setCell ⟨w.heap.size+1,7,none⟩ (.slice q.fa q.files.length q.fc)).setCell ⟨w.heap.size+1,8,none⟩ (.slice q.sa q.scripts.length q.sc)).setCell ⟨w.heap.size+1,9,none⟩ (.slice Ac b.conf.length cc)).setCell ⟨w.heap.size+1,10,none⟩ (.slice A b.ents.length c)).setCell ⟨w.heap.size+1+1,0,none⟩ (.string ⟨#[]⟩)).setCell ⟨w.heap.size+1+1,1,none⟩ (.string ⟨#[]⟩)).setCell ⟨w.heap.size+1+1,2,none⟩ (.int .i64 0)) (w.heap.size+3) q Ac cc b.conf A b.ents.length c m:=((((((((((((((R6.out.set (by omega) _).set (by omega) _).set (by omega) _).set (by omega) _).set (by omega) _).set (by omega) _).set (by omega) _).set (by omega) _).set (by omega) _).set (by omega) _).set (by omega) _).set (by omega) _).set (by omega) _).set (by omega) _)
 generalize ((((((((((((((w6.setCell ⟨w.heap.size+1,0,none⟩ (.string q.nm)).setCell ⟨w.heap.size+1,1,none⟩ (.string q.ver)).setCell ⟨w.heap.size+1,2,none⟩ (.string q.ar)).setCell ⟨w.heap.size+1,3,none⟩ (.string q.sm)).setCell ⟨w.heap.size+1,4,none⟩ (.slice q.na q.needs.length q.nc)).setCell ⟨w.heap.size+1,5,none⟩ (.slice q.ba q.bars.length q.bc)).setCell ⟨w.heap.size+1,6,none⟩ (.slice q.ga q.gives.length q.gc)).setCell ⟨w.heap.size+1,7,none⟩ (.slice q.fa q.files.length q.fc)).setCell ⟨w.heap.size+1,8,none⟩ (.slice q.sa q.scripts.length q.sc)).setCell ⟨w.heap.size+1,9,none⟩ (.slice Ac b.conf.length cc)).setCell ⟨w.heap.size+1,10,none⟩ (.slice A b.ents.length c)).setCell ⟨w.heap.size+1+1,0,none⟩ (.string ⟨#[]⟩)).setCell ⟨w.heap.size+1+1,1,none⟩ (.string ⟨#[]⟩)).setCell ⟨w.heap.size+1+1,2,none⟩ (.int .i64 0))=WF at *
 go_wp2_with fail
 exact bodyPost_ret (IR rfl rfl ZF RF) rfl ⟨LF,.inr ⟨C.out,q,Ac,A,cc,c,m0,m,rfl,AL.out,HR.pk,HR.cf,ML.out,MS.out,MP.out,MO.out,HR.er,HR.eo⟩⟩
end
end Go.Proofs.YtlglfpbhapmhiaaGreatDoor
