/- A part of the proof. -/
import Derived.Outline
import Derived.Test.YtlglfpbhapmhiaaGreatDoorK36
import Derived.Test.YtlglfpbhapmhiaaGreatDoorK40
import Derived.Test.YtlglfpbhapmhiaaGreatDoorK42
set_option maxRecDepth 100000
set_option maxHeartbeats 20000000
set_option linter.unusedVariables false
set_option linter.unusedSimpArgs false
namespace Go.Proofs.YtlglfpbhapmhiaaGreatDoor
section
open Go.RowKit Go.Maps
structure KO (w wr:World) (b:dt):Prop where
 bu:av wr w.heap.size b.cells
 r1:av wr (w.heap.size+1) aW
 r2:av wr (w.heap.size+1+1) [.string ⟨#[]⟩,.string ⟨#[]⟩,.int .i64 0]
 bel:Below w.heap.size w wr
theorem KO.step {w wr w':World}{b:dt}(h:KO w wr b)(hb:Below wr.heap.size wr w'):KO w w' b:=⟨h.bu.below hb,h.r1.below hb,h.r2.below hb,ap h.bel hb⟩
theorem KO.start (w:World)(b:dt):KO w (((w.alloc (.cells #[.string b.pk.nm,.string b.pk.ver,.string b.pk.ar,.string b.pk.sm,.slice b.pk.na b.pk.needs.length b.pk.nc,.slice b.pk.ba b.pk.bars.length b.pk.bc,.slice b.pk.ga b.pk.gives.length b.pk.gc,.slice b.pk.fa b.pk.files.length b.pk.fc,.slice b.pk.sa b.pk.scripts.length b.pk.sc,.slice b.ca b.conf.length b.cc,.slice b.ea b.ents.length b.ec] 30)).alloc (.cells #[.string ⟨#[]⟩,.string ⟨#[]⟩,.string ⟨#[]⟩,.string ⟨#[]⟩,.slice none 0 0,.slice none 0 0,.slice none 0 0,.slice none 0 0,.slice none 0 0] 27)).alloc (.cells #[.string ⟨#[]⟩,.string ⟨#[]⟩,.int .i64 0] 38)) b:=by
 have h1:=av.new (w.alloc (.cells #[.string b.pk.nm,.string b.pk.ver,.string b.pk.ar,.string b.pk.sm,.slice b.pk.na b.pk.needs.length b.pk.nc,.slice b.pk.ba b.pk.bars.length b.pk.bc,.slice b.pk.ga b.pk.gives.length b.pk.gc,.slice b.pk.fa b.pk.files.length b.pk.fc,.slice b.pk.sa b.pk.scripts.length b.pk.sc,.slice b.ca b.conf.length b.cc,.slice b.ea b.ents.length b.ec] 30)) aW 27
 have h2:=av.new ((w.alloc (.cells #[.string b.pk.nm,.string b.pk.ver,.string b.pk.ar,.string b.pk.sm,.slice b.pk.na b.pk.needs.length b.pk.nc,.slice b.pk.ba b.pk.bars.length b.pk.bc,.slice b.pk.ga b.pk.gives.length b.pk.gc,.slice b.pk.fa b.pk.files.length b.pk.fc,.slice b.pk.sa b.pk.scripts.length b.pk.sc,.slice b.ca b.conf.length b.cc,.slice b.ea b.ents.length b.ec] 30)).alloc (.cells #[.string ⟨#[]⟩,.string ⟨#[]⟩,.string ⟨#[]⟩,.string ⟨#[]⟩,.slice none 0 0,.slice none 0 0,.slice none 0 0,.slice none 0 0,.slice none 0 0] 27)) [.string ⟨#[]⟩,.string ⟨#[]⟩,.int .i64 0] 38
 simp only[World.size_alloc] at h1 h2
 exact⟨((av.new w b.cells _).alloc _).alloc _,h1.alloc _,h2,((bR.alloc lr _).alloc (by simp) _).alloc (by simp;omega) _⟩
def M9 (q:bN)(v:Value):Value:=.agg #[.string q.nm,.string q.ver,.string q.ar,.string q.sm,.slice q.na q.needs.length q.nc,.slice q.ba q.bars.length q.bc,.slice q.ga q.gives.length q.gc,v,.slice q.sa q.scripts.length q.sc]
def MM:Value:=.agg #[.string ⟨#[]⟩,.string ⟨#[]⟩,.string ⟨#[]⟩,.string ⟨#[]⟩,.slice none 0 0,.slice none 0 0,.slice none 0 0,.slice none 0 0,.slice none 0 0]
def II (fmt:Int)(b:dt)(w:World)(e:Ending)(w':World):Prop:=
 Below w.heap.size w w'∧(((kG fmt b).2≠0∧e=.returned (.tuple #[MM,tr fmt b])) ∨
 ((kG fmt b).2=0∧∃ (q:bN)(A:OA)(c hi:Nat)(l:List ax),e=.returned (.tuple #[M9 q (.slice A l.length c),.agg #[.string ⟨#[]⟩,.string ⟨#[]⟩,.int .i64 0]])∧b.pk.alike q∧l.Perm (bM fmt b.conf b.ents) ∧
   l.Pairwise (fun x y=>¬ bl y.path<bl x.path)∧Q4 q w' (w.heap.size+3) hi∧hi≤w'.heap.size∧w'.ownsRow (w.heap.size+3) 56 8 (.slice A l.length c) l.length (l.flatMap ax.cells)))
theorem CU {fmt:Int}{b:dt}(h:(kG fmt b).2=0):(fmt=1∨fmt=2∨fmt=3)∧b.pk.files=[]:=by
 unfold kG at h
 split at h
 ·simp at h
 rename_i h1
 refine⟨?_,by cases hf:b.pk.files with | nil=>rfl | cons x r=>rw[hf] at h1;simp at h1⟩
 split at h
 ·rename_i h2;exact absurd h h2
 rename_i h2
 have h3:(jb fmt b.pk).2=0:=by simpa using h2
 cases hf:tA fmt with
 | true=>exact za hf
 | false=>unfold jb KI at h3;rw[if_pos hf] at h3;simp at h3
theorem IJ {fmt:Int}(h:fmt=1∨fmt=2∨fmt=3)(w:World):Calls Tryz.prog 22 #[.int .i64 fmt] w fun e w'=>e=.returned (.int .i64 (JX fmt:Nat))∧w=w':=by
 have:=zJ fmt w
 rcases h with rfl | rfl | rfl<;>exact this
theorem IK {tmps:Array Value}{W:World}{c1 c2:Nat}{a0 a1 a2 a3 a4 a5 a6 a7 a8 r0 r1 r2:Value}(h4:tmps[4]?=some (.pointer (some ⟨c1,0,none⟩)))(h5:tmps[5]?=some (.pointer (some ⟨c2,0,none⟩)))(Z:av W c1 [a0,a1,a2,a3,a4,a5,a6,a7,a8])(R:av W c2 [r0,r1,r2]):
  (results Tryz.f7 tmps).run Tryz.prog W=.ok (.tuple #[.agg #[a0,a1,a2,a3,a4,a5,a6,a7,a8],.agg #[r0,r1,r2]]) W:=by
 have v0:=Z.cell 0 _ rfl
 have v1:=Z.cell 1 _ rfl
 have v2:=Z.cell 2 _ rfl
 have v3:=Z.cell 3 _ rfl
 have v4:=Z.cell 4 _ rfl
 have v5:=Z.cell 5 _ rfl
 have v6:=Z.cell 6 _ rfl
 have v7:=Z.cell 7 _ rfl
 have v8:=Z.cell 8 _ rfl
 have u0:=R.cell 0 _ rfl
 have u1:=R.cell 1 _ rfl
 have u2:=R.cell 2 _ rfl
 simp(maxDischargeDepth:=14) [results,Tryz.results7,h4,h5,go_sem,v0,v1,v2,v3,v4,v5,v6,v7,v8,u0,u1,u2]
def FX (fmt:Int)(conf:List BA)(pre:List ax)(x:am):LV:=[.string x.path,.int .i64 (je fmt conf pre x).kind,.int .i64 x.mode,.string x.owner,.string x.group,.string (je fmt conf pre x).link,.string (je fmt conf pre x).sum,.bool false]
theorem BJ (kd:Nat)(m:LU):(fh kd m).length≤1000000:=by
 have h:∀ x:bY,(kF kd x.toNat 4).length=4:=fun x=>by unfold kF;split;exact lN _ _;exact qy _ _
 have h2:∀ l:List bY,(l.flatMap fun x=>kF kd x.toNat 4).length=4*l.length:=by
  intro l
  induction l with
  | nil=>rfl
  | cons a r ih=>rw[List.flatMap_cons,List.length_append,h,ih,List.length_cons];omega
 have h3:jc kd≤8:=by unfold jc;split;decide;split<;>decide
 unfold fh
 rw[h2,List.length_take]
 omega
def IL:Value:=.agg #[.string ⟨#[]⟩,.int .i64 0,.int .i64 0,.string ⟨#[]⟩,.string ⟨#[]⟩,.string ⟨#[]⟩,.string ⟨#[]⟩,.bool false]
theorem Fx (w:World):(zeroValue 56).run Tryz.prog w=.ok IL w:=by kernel_rfl
theorem Kf (y:ax)(w:World):(Instr.field 56 (.agg #[.string y.path,.int .i64 y.kind,.int .i64 y.mode,.string y.owner,.string y.group,.string y.link,.string y.sum,.bool y.conf]) 6).run Tryz.prog w=.ok (.string y.sum) w:=by kernel_rfl
theorem LY {fmt:Int}{conf:List BA}{pre:List ax}{x:am}(h:x.kind=1):FX fmt conf pre x=[.string x.path,.int .i64 x.kind,.int .i64 x.mode,.string x.owner,.string x.group,.string ⟨#[]⟩,.string (MJ fmt x.data),.bool false]:=by unfold FX je;simp[h]
theorem Kg {fmt:Int}{conf:List BA}{pre:List ax}{x:am}(h:x.kind=4):FX fmt conf pre x=[.string x.path,.int .i64 1,.int .i64 x.mode,.string x.owner,.string x.group,.string ⟨#[]⟩,.string (((kD pre x.link).map ax.sum).getD ⟨#[]⟩),.bool false]:=by unfold FX je;simp[h]
theorem Kh {fmt:Int}{conf:List BA}{pre:List ax}{x:am}(h:x.kind=3):FX fmt conf pre x=[.string x.path,.int .i64 x.kind,.int .i64 x.mode,.string x.owner,.string x.group,.string x.link,.string ⟨#[]⟩,.bool false]:=by unfold FX je;simp[h]
theorem Ki {fmt:Int}{conf:List BA}{pre:List ax}{x:am}(h1:¬ x.kind=1)(h4:¬ x.kind=4)(h3:¬ x.kind=3):FX fmt conf pre x=[.string x.path,.int .i64 x.kind,.int .i64 x.mode,.string x.owner,.string x.group,.string ⟨#[]⟩,.string ⟨#[]⟩,.bool false]:=by unfold FX je;simp[h1,h3,h4]
theorem BK:(Tryz.prog.info? 56).map (fun i=>(i.zero,i.size,i.bytes))=some (some IL,8,104):=by kernel_rfl
theorem BM (w:World)(t:TypeId)(y:ax):ji (w.alloc (.cells #[.string y.path,.int .i64 y.kind,.int .i64 y.mode,.string y.owner,.string y.group,.string y.link,.string y.sum,.bool y.conf] t)) (w.heap.size+1) 8 (some ⟨w.heap.size,0,none⟩) 1 y.cells:=by
 refine⟨rfl,fun _=>⟨_,rfl,by simp,fun j u hu=>?_⟩⟩
 rw[show Addr.add ⟨w.heap.size,0,none⟩ j=⟨w.heap.size,j,none⟩ by unfold Addr.add;split<;>simp_all]
 exact(av.new w y.cells t).cell j u hu
theorem LZ (fmt:Int):1≤JX fmt∧JX fmt≤3:=by unfold JX;split;omega;split<;>omega
theorem ly (fmt:Int)(b:dt)(w:World)(hG:wn w)(hT:qj w)(hb:b.ok w)(hs:b.small):
  Calls Tryz.prog 7 #[.int .i64 fmt,b.val] w (II fmt b w):=by
 have HG:=ae hG
 have HT:=ae hT
 have HO:=ae hb
 have HS:=ae hs
 clear hG hT hb hs
 obtain⟨W0,hW0⟩:∃ W0,(((w.alloc (.cells #[.string b.pk.nm,.string b.pk.ver,.string b.pk.ar,.string b.pk.sm,.slice b.pk.na b.pk.needs.length b.pk.nc,.slice b.pk.ba b.pk.bars.length b.pk.bc,.slice b.pk.ga b.pk.gives.length b.pk.gc,.slice b.pk.fa b.pk.files.length b.pk.fc,.slice b.pk.sa b.pk.scripts.length b.pk.sc,.slice b.ca b.conf.length b.cc,.slice b.ea b.ents.length b.ec] 30)).alloc (.cells #[.string ⟨#[]⟩,.string ⟨#[]⟩,.string ⟨#[]⟩,.string ⟨#[]⟩,.slice none 0 0,.slice none 0 0,.slice none 0 0,.slice none 0 0,.slice none 0 0] 27)).alloc (.cells #[.string ⟨#[]⟩,.string ⟨#[]⟩,.int .i64 0] 38))=W0:=⟨_,rfl⟩
 have P0:Hid (KO w W0 b):=by show KO _ _ _;rw[←hW0];exact KO.start w b
 have b0:=P0.out.bu.cell 0 _ rfl
 have b1:=P0.out.bu.cell 1 _ rfl
 have b2:=P0.out.bu.cell 2 _ rfl
 have b3:=P0.out.bu.cell 3 _ rfl
 have b4:=P0.out.bu.cell 4 _ rfl
 have b5:=P0.out.bu.cell 5 _ rfl
 have b6:=P0.out.bu.cell 6 _ rfl
 have b7:=P0.out.bu.cell 7 _ rfl
 have b8:=P0.out.bu.cell 8 _ rfl
 have b9:=P0.out.bu.cell 9 _ rfl
 have b10:=P0.out.bu.cell 10 _ rfl
 have BC:=kB fmt b W0 (HG.out.below P0.out.bel) (HO.out.below P0.out.bel) HS.out
 unfold dt.val at BC ⊢
 go_enter Tryz.func7,Tryz.ntmps7
 go_wp2_with fail
 clear hW0 b0 b1 b2 b3 b4 b5 b6 b7 b8 b9 b10
 refine BC.mono ?_;rintro e w1 ⟨rfl,hb1⟩
 have P1:=ae (P0.out.step hb1)
 clear hb1 BC P0
 by_cases hc:(kG fmt b).2=0
 case neg=>
  obtain⟨wh,hwh⟩:∃ wh,(kG fmt b).1=wh:=⟨_,rfl⟩
  obtain⟨code,hcd⟩:∃ code,(kG fmt b).2=code:=⟨_,rfl⟩
  have BV:tr fmt b=.agg #[.string b.pk.nm,.string wh,.int .i64 code]:=gb (by rw[←hwh,←hcd]) (by rw[←hcd];exact hc)
  have BVH:=ae BV
  rw[BV]
  have q:(code != 0)=true:=by rw[←hcd];simpa using hc
  have C:=ae hc
  clear hc hwh hcd BV
  have z0:=P1.out.r1.cell 0 _ rfl
  have z1:=P1.out.r1.cell 1 _ rfl
  have z2:=P1.out.r1.cell 2 _ rfl
  have z3:=P1.out.r1.cell 3 _ rfl
  have z4:=P1.out.r1.cell 4 _ rfl
  have z5:=P1.out.r1.cell 5 _ rfl
  have z6:=P1.out.r1.cell 6 _ rfl
  have z7:=P1.out.r1.cell 7 _ rfl
  have z8:=P1.out.r1.cell 8 _ rfl
  have f0:=P1.out.r1.free 0 (by simp[aW])
  have f1:=P1.out.r1.free 1 (by simp[aW])
  have f2:=P1.out.r1.free 2 (by simp[aW])
  have f3:=P1.out.r1.free 3 (by simp[aW])
  have f4:=P1.out.r1.free 4 (by simp[aW])
  have f5:=P1.out.r1.free 5 (by simp[aW])
  have f6:=P1.out.r1.free 6 (by simp[aW])
  have f7:=P1.out.r1.free 7 (by simp[aW])
  have f8:=P1.out.r1.free 8 (by simp[aW])
  have r0:=P1.out.r2.cell 0 _ rfl
  have r1:=P1.out.r2.cell 1 _ rfl
  have r2:=P1.out.r2.cell 2 _ rfl
  have g0:=P1.out.r2.free 0 (by simp)
  have g1:=P1.out.r2.free 1 (by simp)
  have g2:=P1.out.r2.free 2 (by simp)
  have hz1:=P1.out.r1.sz
  have hz2:=P1.out.r2.sz
  go_wp2_with fail
  go_region
  go_wp2_with fail
  have ZF:av ((((((((((((((w1.setCell ⟨w.heap.size+1,0,none⟩ (.string ⟨#[]⟩)).setCell ⟨w.heap.size+1,1,none⟩ (.string ⟨#[]⟩)).setCell ⟨w.heap.size+1,2,none⟩ (.string ⟨#[]⟩)).setCell ⟨w.heap.size+1,3,none⟩ (.string ⟨#[]⟩)).setCell ⟨w.heap.size+1,4,none⟩ (.slice none 0 0)).setCell ⟨w.heap.size+1,5,none⟩ (.slice none 0 0)).setCell ⟨w.heap.size+1,6,none⟩ (.slice none 0 0)).setCell ⟨w.heap.size+1,7,none⟩ (.slice none 0 0)).setCell ⟨w.heap.size+1,8,none⟩ (.slice none 0 0)).setCell ⟨w.heap.size+1+1,0,none⟩ (.string b.pk.nm)).setCell ⟨w.heap.size+1+1,1,none⟩ (.string wh)).setCell ⟨w.heap.size+1+1,2,none⟩ (.int .i64 code))).alloc (.cells #[.string b.pk.nm,.string wh,.int .i64 code] 38)).drew (w.heap.size+1) aW:=(((((((((((((P1.out.r1.set 0 (by simp[aW]) (.string ⟨#[]⟩)).set 1 (by simp[aW]) (.string ⟨#[]⟩)).set 2 (by simp[aW]) (.string ⟨#[]⟩)).set 3 (by simp[aW]) (.string ⟨#[]⟩)).set 4 (by simp[aW]) (.slice none 0 0)).set 5 (by simp[aW]) (.slice none 0 0)).set 6 (by simp[aW]) (.slice none 0 0)).set 7 (by simp[aW]) (.slice none 0 0)).set 8 (by simp[aW]) (.slice none 0 0)).far (by omega) _).far (by omega) _).far (by omega) _).alloc _).drew
  have RF:av ((((((((((((((w1.setCell ⟨w.heap.size+1,0,none⟩ (.string ⟨#[]⟩)).setCell ⟨w.heap.size+1,1,none⟩ (.string ⟨#[]⟩)).setCell ⟨w.heap.size+1,2,none⟩ (.string ⟨#[]⟩)).setCell ⟨w.heap.size+1,3,none⟩ (.string ⟨#[]⟩)).setCell ⟨w.heap.size+1,4,none⟩ (.slice none 0 0)).setCell ⟨w.heap.size+1,5,none⟩ (.slice none 0 0)).setCell ⟨w.heap.size+1,6,none⟩ (.slice none 0 0)).setCell ⟨w.heap.size+1,7,none⟩ (.slice none 0 0)).setCell ⟨w.heap.size+1,8,none⟩ (.slice none 0 0)).setCell ⟨w.heap.size+1+1,0,none⟩ (.string b.pk.nm)).setCell ⟨w.heap.size+1+1,1,none⟩ (.string wh)).setCell ⟨w.heap.size+1+1,2,none⟩ (.int .i64 code))).alloc (.cells #[.string b.pk.nm,.string wh,.int .i64 code] 38)).drew (w.heap.size+1+1) [.string b.pk.nm,.string wh,.int .i64 code]:=(((((((((((((P1.out.r2.far (by omega) _).far (by omega) _).far (by omega) _).far (by omega) _).far (by omega) _).far (by omega) _).far (by omega) _).far (by omega) _).far (by omega) _).set 0 (by simp) (.string b.pk.nm)).set 1 (by simp) (.string wh)).set 2 (by simp) (.int .i64 code)).alloc _).drew
  have LF:Below w.heap.size w ((((((((((((((w1.setCell ⟨w.heap.size+1,0,none⟩ (.string ⟨#[]⟩)).setCell ⟨w.heap.size+1,1,none⟩ (.string ⟨#[]⟩)).setCell ⟨w.heap.size+1,2,none⟩ (.string ⟨#[]⟩)).setCell ⟨w.heap.size+1,3,none⟩ (.string ⟨#[]⟩)).setCell ⟨w.heap.size+1,4,none⟩ (.slice none 0 0)).setCell ⟨w.heap.size+1,5,none⟩ (.slice none 0 0)).setCell ⟨w.heap.size+1,6,none⟩ (.slice none 0 0)).setCell ⟨w.heap.size+1,7,none⟩ (.slice none 0 0)).setCell ⟨w.heap.size+1,8,none⟩ (.slice none 0 0)).setCell ⟨w.heap.size+1+1,0,none⟩ (.string b.pk.nm)).setCell ⟨w.heap.size+1+1,1,none⟩ (.string wh)).setCell ⟨w.heap.size+1+1,2,none⟩ (.int .i64 code))).alloc (.cells #[.string b.pk.nm,.string wh,.int .i64 code] 38)).drew:=ci ((ag (ag (ag (ag (ag (ag (ag (ag (ag (ag (ag (ag P1.out.bel (by omega) _) (by omega) _) (by omega) _) (by omega) _) (by omega) _) (by omega) _) (by omega) _) (by omega) _) (by omega) _) (by omega) _) (by omega) _) (by omega) _).alloc (by have:=P1.out.bel.size;simpa using this) _)
  generalize ((((((((((((((w1.setCell ⟨w.heap.size+1,0,none⟩ (.string ⟨#[]⟩)).setCell ⟨w.heap.size+1,1,none⟩ (.string ⟨#[]⟩)).setCell ⟨w.heap.size+1,2,none⟩ (.string ⟨#[]⟩)).setCell ⟨w.heap.size+1,3,none⟩ (.string ⟨#[]⟩)).setCell ⟨w.heap.size+1,4,none⟩ (.slice none 0 0)).setCell ⟨w.heap.size+1,5,none⟩ (.slice none 0 0)).setCell ⟨w.heap.size+1,6,none⟩ (.slice none 0 0)).setCell ⟨w.heap.size+1,7,none⟩ (.slice none 0 0)).setCell ⟨w.heap.size+1,8,none⟩ (.slice none 0 0)).setCell ⟨w.heap.size+1+1,0,none⟩ (.string b.pk.nm)).setCell ⟨w.heap.size+1+1,1,none⟩ (.string wh)).setCell ⟨w.heap.size+1+1,2,none⟩ (.int .i64 code))).alloc (.cells #[.string b.pk.nm,.string wh,.int .i64 code] 38)).drew=WF at *
  exact bodyPost_ret (IK rfl rfl ZF RF) rfl ⟨LF,.inl ⟨C.out,by rw[BVH.out];rfl⟩⟩
 obtain⟨hfm,hnf⟩:=CU hc
 have BV:tr fmt b=.agg #[.string ⟨#[]⟩,.string ⟨#[]⟩,.int .i64 0]:=by unfold tr Ji;rw[if_pos hc];rfl
 rw[BV]
 have C:=ae hc
 have HFM:=ae hfm
 have HNF:=ae hnf
 clear hc hfm BV hnf
 have b0:=P1.out.bu.cell 0 _ rfl
 have b1:=P1.out.bu.cell 1 _ rfl
 have b2:=P1.out.bu.cell 2 _ rfl
 have b3:=P1.out.bu.cell 3 _ rfl
 have b4:=P1.out.bu.cell 4 _ rfl
 have b5:=P1.out.bu.cell 5 _ rfl
 have b6:=P1.out.bu.cell 6 _ rfl
 have b7:=P1.out.bu.cell 7 _ rfl
 have b8:=P1.out.bu.cell 8 _ rfl
 have hz:=P1.out.bu.sz
 have hz3:=P1.out.r2.sz
 go_wp2_with fail
 have L1:Hid (Below w1.heap.size w1 (w1.alloc (.cells #[.string ⟨#[]⟩,.string ⟨#[]⟩,.int .i64 0] 38))):=bR.alloc lr _
 have PK:=lx b.pk (w1.alloc (.cells #[.string ⟨#[]⟩,.string ⟨#[]⟩,.int .i64 0] 38)) (HO.out.pk.below (ap P1.out.bel L1.out)) HS.out.few
 unfold bN.val at PK
 refine PK.mono ?_;rintro e w2 ⟨q,rfl,hal,hown,hb2⟩
 have P2:=ae ((P1.out.step L1.out).step hb2)
 have hlo:w.heap.size+3≤(w1.alloc (.cells #[.string ⟨#[]⟩,.string ⟨#[]⟩,.int .i64 0] 38)).heap.size+1+1:=by simp;omega
 have OW:=ae (hown.base hlo)
 have hqf:q.files=[]:=by rw[←hal.files];exact HNF.out
 have hql:q.files.length=0:=by rw[hqf];rfl
 have FR0:Hid (w2.ownsRow (w.heap.size+3) 56 8 (.slice q.fa 0 q.fc) 0 []):=by have:=OW.out.files;rw[hqf] at this;exact this
 have hb2s:=hb2.size
 simp only[World.size_alloc] at hb2s
 have AL:=ae hal
 have HQF:=ae hqf
 clear PK hal hown hb2 hlo hqf P1 L1 b0 b1 b2 b3 b4 b5 b6 b7 b8
 unfold bN.val
 rw[hql]
 clear hql
 have P3:Hid (CM w ((w2.alloc (.cells #[.string q.nm,.string q.ver,.string q.ar,.string q.sm,.slice q.na q.needs.length q.nc,.slice q.ba q.bars.length q.bc,.slice q.ga q.gives.length q.gc,.slice q.fa 0 q.fc,.slice q.sa q.scripts.length q.sc] 27)).alloc (.map #[] 0)) b q w2.heap.size (.slice q.fa 0 q.fc) [] []):=by
  have hm:=aZ.made (w2.alloc (.cells #[.string q.nm,.string q.ver,.string q.ar,.string q.sm,.slice q.na q.needs.length q.nc,.slice q.ba q.bars.length q.bc,.slice q.ga q.gives.length q.gc,.slice q.fa 0 q.fc,.slice q.sa q.scripts.length q.sc] 27))
  simp only[World.size_alloc] at hm
  have nb:(Value.slice q.fa 0 q.fc).ownBlock≠some w2.heap.size:=fun e=>by have:=(FR0.out.lt _ e).2;omega
  have nc:(Value.slice q.fa 0 q.fc).ownBlock≠some (w2.heap.size+1):=fun e=>by have:=(FR0.out.lt _ e).2;omega
  exact⟨(P2.out.bu.alloc _).alloc _,(P2.out.r1.alloc _).alloc _,(P2.out.r2.alloc _).alloc _,(av.new w2 (qA q (.slice q.fa 0 q.fc)) _).alloc _,((Q4.of OW.out).below (bR.alloc lr _)).below (bR.alloc lr _),(FR0.out.alloc _).alloc _,hm,nb,nc,(P2.out.bel.alloc P2.out.bel.size _).alloc (by have:=P2.out.bel.size;simp;omega) _,by omega⟩
 have b10:=P2.out.bu.cell 10 _ rfl
 have hz2:=P2.out.bu.sz
 have hmm:=@run_makeMap Tryz.prog
 go_wp2_with fail
 clear hmm b10
 have hne:b.ents.length≤100000:=HS.out.ents
 go_loopw [27] (fun i wr=>∃ (k:Nat) (A:OA) (c:Nat),k≤b.ents.length∧i=.int .i64 k∧Hid (CM w wr b q w2.heap.size (.slice A k c) (bM fmt b.conf (b.ents.take k)) (bM fmt b.conf (b.ents.take k)))) (fun i _=>b.ents.length-(intOf i).toNat)
 case atStart=>exact⟨0,_,_,z0,rfl,P3⟩
 case round=>
  obtain⟨k,A,c,hk,rfl,HP⟩:=hrel
  clear P3 P2 FR0 OW
  by_cases hlt:k<b.ents.length
  case neg=>
   have hkn:k=b.ents.length:=by omega
   have PA:Hid (CM w wr b q w2.heap.size (.slice A k c) (bM fmt b.conf b.ents) (bM fmt b.conf b.ents)):=by have h:=HP.out;rw[tL (by omega)] at h;exact h
   have FLN:Hid ((bM fmt b.conf b.ents).length=k):=by show _=_;unfold bM;rw[lq];simp;omega
   have hk5:k≤100000:=by omega
   clear HP hkn
   have k7:=PA.out.kv.cell 7 _ rfl
   go_wp2_with fail
   refine(un A c (w.heap.size+3) k (bM fmt b.conf b.ents) FLN _ (by have h:=PA.out.fr;rw[FLN.out] at h;exact h) hk5).mono ?_
   rintro e w4 ⟨rfl,l',hp',hs',ho',hg'⟩
   have KV:=ae (PA.out.kv.grownO hg' PA.out.f1)
   have low:∀ j,j<w.heap.size+3→(Value.slice A k c).ownBlock≠some j:=fun j hj e=>by have:=(PA.out.fr.lt j e).1;omega
   have R1:=ae (PA.out.r1.grownO hg' (low _ (by omega)))
   have R2:=ae (PA.out.r2.grownO hg' (low _ (by omega)))
   have QQ:=ae (PA.out.q4.app PA.out.fr hg')
   have BL:Hid (Below w.heap.size w w4):=PA.out.bel.grown hg' PA.out.bel.size (fun j hj=>by have:=(PA.out.fr.lt j hj).1;omega)
   rw[FLN.out] at ho'
   have HL':Hid (l'.length=k):=by show _=_;rw[hp'.length_eq];exact FLN.out
   have FR:Hid (w4.ownsRow (w.heap.size+3) 56 8 (.slice A k c) k (l'.flatMap ax.cells)):=ho'
   have PM:=ae hp'
   have SO:=ae hs'
   have hkb:=KV.out.sz
   have hlo:=PA.out.lo
   clear hp' hs' ho' hg' low k7 PA
   have y0:=KV.out.cell 0 _ rfl
   have y1:=KV.out.cell 1 _ rfl
   have y2:=KV.out.cell 2 _ rfl
   have y3:=KV.out.cell 3 _ rfl
   have y4:=KV.out.cell 4 _ rfl
   have y5:=KV.out.cell 5 _ rfl
   have y6:=KV.out.cell 6 _ rfl
   have y7:=KV.out.cell 7 _ rfl
   have y8:=KV.out.cell 8 _ rfl
   have z0:=R1.out.cell 0 _ rfl
   have z1:=R1.out.cell 1 _ rfl
   have z2:=R1.out.cell 2 _ rfl
   have z3:=R1.out.cell 3 _ rfl
   have z4:=R1.out.cell 4 _ rfl
   have z5:=R1.out.cell 5 _ rfl
   have z6:=R1.out.cell 6 _ rfl
   have z7:=R1.out.cell 7 _ rfl
   have z8:=R1.out.cell 8 _ rfl
   have g0:=R1.out.free 0 (by simp[aW])
   have g1:=R1.out.free 1 (by simp[aW])
   have g2:=R1.out.free 2 (by simp[aW])
   have g3:=R1.out.free 3 (by simp[aW])
   have g4:=R1.out.free 4 (by simp[aW])
   have g5:=R1.out.free 5 (by simp[aW])
   have g6:=R1.out.free 6 (by simp[aW])
   have g7:=R1.out.free 7 (by simp[aW])
   have g8:=R1.out.free 8 (by simp[aW])
   have s0:=R2.out.cell 0 _ rfl
   have s1:=R2.out.cell 1 _ rfl
   have s2:=R2.out.cell 2 _ rfl
   have t0:=R2.out.free 0 (by simp)
   have t1:=R2.out.free 1 (by simp)
   have t2:=R2.out.free 2 (by simp)
   go_wp2_with fail
   have ZF:Hid (av (((((((((w4.setCell ⟨w.heap.size+1,0,none⟩ (.string q.nm)).setCell ⟨w.heap.size+1,1,none⟩ (.string q.ver)).setCell ⟨w.heap.size+1,2,none⟩ (.string q.ar)).setCell ⟨w.heap.size+1,3,none⟩ (.string q.sm)).setCell ⟨w.heap.size+1,4,none⟩ (.slice q.na q.needs.length q.nc)).setCell ⟨w.heap.size+1,5,none⟩ (.slice q.ba q.bars.length q.bc)).setCell ⟨w.heap.size+1,6,none⟩ (.slice q.ga q.gives.length q.gc)).setCell ⟨w.heap.size+1,7,none⟩ (.slice A k c)).setCell ⟨w.heap.size+1,8,none⟩ (.slice q.sa q.scripts.length q.sc)) (w.heap.size+1) (qA q (.slice A k c))):=(((((((((R1.out.set 0 (by simp[aW]) (.string q.nm)).set 1 (by simp[aW]) (.string q.ver)).set 2 (by simp[aW]) (.string q.ar)).set 3 (by simp[aW]) (.string q.sm)).set 4 (by simp[aW]) (.slice q.na q.needs.length q.nc)).set 5 (by simp[aW]) (.slice q.ba q.bars.length q.bc)).set 6 (by simp[aW]) (.slice q.ga q.gives.length q.gc)).set 7 (by simp[aW]) (.slice A k c)).set 8 (by simp[aW]) (.slice q.sa q.scripts.length q.sc))
   have RF:Hid (av (((((((((w4.setCell ⟨w.heap.size+1,0,none⟩ (.string q.nm)).setCell ⟨w.heap.size+1,1,none⟩ (.string q.ver)).setCell ⟨w.heap.size+1,2,none⟩ (.string q.ar)).setCell ⟨w.heap.size+1,3,none⟩ (.string q.sm)).setCell ⟨w.heap.size+1,4,none⟩ (.slice q.na q.needs.length q.nc)).setCell ⟨w.heap.size+1,5,none⟩ (.slice q.ba q.bars.length q.bc)).setCell ⟨w.heap.size+1,6,none⟩ (.slice q.ga q.gives.length q.gc)).setCell ⟨w.heap.size+1,7,none⟩ (.slice A k c)).setCell ⟨w.heap.size+1,8,none⟩ (.slice q.sa q.scripts.length q.sc)) (w.heap.size+1+1) [.string ⟨#[]⟩,.string ⟨#[]⟩,.int .i64 0]):=(((((((((R2.out.far (by omega) _).far (by omega) _).far (by omega) _).far (by omega) _).far (by omega) _).far (by omega) _).far (by omega) _).far (by omega) _).far (by omega) _)
   have LF:Hid (Below w.heap.size w (((((((((w4.setCell ⟨w.heap.size+1,0,none⟩ (.string q.nm)).setCell ⟨w.heap.size+1,1,none⟩ (.string q.ver)).setCell ⟨w.heap.size+1,2,none⟩ (.string q.ar)).setCell ⟨w.heap.size+1,3,none⟩ (.string q.sm)).setCell ⟨w.heap.size+1,4,none⟩ (.slice q.na q.needs.length q.nc)).setCell ⟨w.heap.size+1,5,none⟩ (.slice q.ba q.bars.length q.bc)).setCell ⟨w.heap.size+1,6,none⟩ (.slice q.ga q.gives.length q.gc)).setCell ⟨w.heap.size+1,7,none⟩ (.slice A k c)).setCell ⟨w.heap.size+1,8,none⟩ (.slice q.sa q.scripts.length q.sc))):=(ag (ag (ag (ag (ag (ag (ag (ag (ag BL.out (by omega) _) (by omega) _) (by omega) _) (by omega) _) (by omega) _) (by omega) _) (by omega) _) (by omega) _) (by omega) _)
   have GF:Hid (w4.grownBy (((((((((w4.setCell ⟨w.heap.size+1,0,none⟩ (.string q.nm)).setCell ⟨w.heap.size+1,1,none⟩ (.string q.ver)).setCell ⟨w.heap.size+1,2,none⟩ (.string q.ar)).setCell ⟨w.heap.size+1,3,none⟩ (.string q.sm)).setCell ⟨w.heap.size+1,4,none⟩ (.slice q.na q.needs.length q.nc)).setCell ⟨w.heap.size+1,5,none⟩ (.slice q.ba q.bars.length q.bc)).setCell ⟨w.heap.size+1,6,none⟩ (.slice q.ga q.gives.length q.gc)).setCell ⟨w.heap.size+1,7,none⟩ (.slice A k c)).setCell ⟨w.heap.size+1,8,none⟩ (.slice q.sa q.scripts.length q.sc)) (some (w.heap.size+1))):=(an (an (an (an (an (an (an (an (an (World.grownBy.refl w4 (some (w.heap.size+1))) (p:=⟨w.heap.size+1,0,none⟩) (.inl rfl) (.string q.nm)) (p:=⟨w.heap.size+1,1,none⟩) (.inl rfl) (.string q.ver)) (p:=⟨w.heap.size+1,2,none⟩) (.inl rfl) (.string q.ar)) (p:=⟨w.heap.size+1,3,none⟩) (.inl rfl) (.string q.sm)) (p:=⟨w.heap.size+1,4,none⟩) (.inl rfl) (.slice q.na q.needs.length q.nc)) (p:=⟨w.heap.size+1,5,none⟩) (.inl rfl) (.slice q.ba q.bars.length q.bc)) (p:=⟨w.heap.size+1,6,none⟩) (.inl rfl) (.slice q.ga q.gives.length q.gc)) (p:=⟨w.heap.size+1,7,none⟩) (.inl rfl) (.slice A k c)) (p:=⟨w.heap.size+1,8,none⟩) (.inl rfl) (.slice q.sa q.scripts.length q.sc))
   generalize (((((((((w4.setCell ⟨w.heap.size+1,0,none⟩ (.string q.nm)).setCell ⟨w.heap.size+1,1,none⟩ (.string q.ver)).setCell ⟨w.heap.size+1,2,none⟩ (.string q.ar)).setCell ⟨w.heap.size+1,3,none⟩ (.string q.sm)).setCell ⟨w.heap.size+1,4,none⟩ (.slice q.na q.needs.length q.nc)).setCell ⟨w.heap.size+1,5,none⟩ (.slice q.ba q.bars.length q.bc)).setCell ⟨w.heap.size+1,6,none⟩ (.slice q.ga q.gives.length q.gc)).setCell ⟨w.heap.size+1,7,none⟩ (.slice A k c)).setCell ⟨w.heap.size+1,8,none⟩ (.slice q.sa q.scripts.length q.sc))=WA at *
   have ZG:av (((WA.setCell ⟨w.heap.size+1+1,0,none⟩ (.string ⟨#[]⟩)).setCell ⟨w.heap.size+1+1,1,none⟩ (.string ⟨#[]⟩)).setCell ⟨w.heap.size+1+1,2,none⟩ (.int .i64 0)) (w.heap.size+1) (qA q (.slice A k c)):=(((ZF.out.far (by omega) _).far (by omega) _).far (by omega) _)
   have RG:av (((WA.setCell ⟨w.heap.size+1+1,0,none⟩ (.string ⟨#[]⟩)).setCell ⟨w.heap.size+1+1,1,none⟩ (.string ⟨#[]⟩)).setCell ⟨w.heap.size+1+1,2,none⟩ (.int .i64 0)) (w.heap.size+1+1) [.string ⟨#[]⟩,.string ⟨#[]⟩,.int .i64 0]:=(((RF.out.set 0 (by simp) (.string ⟨#[]⟩)).set 1 (by simp) (.string ⟨#[]⟩)).set 2 (by simp) (.int .i64 0))
   have LG:Below w.heap.size w (((WA.setCell ⟨w.heap.size+1+1,0,none⟩ (.string ⟨#[]⟩)).setCell ⟨w.heap.size+1+1,1,none⟩ (.string ⟨#[]⟩)).setCell ⟨w.heap.size+1+1,2,none⟩ (.int .i64 0)):=(ag (ag (ag LF.out (by omega) _) (by omega) _) (by omega) _)
   have GG:WA.grownBy (((WA.setCell ⟨w.heap.size+1+1,0,none⟩ (.string ⟨#[]⟩)).setCell ⟨w.heap.size+1+1,1,none⟩ (.string ⟨#[]⟩)).setCell ⟨w.heap.size+1+1,2,none⟩ (.int .i64 0)) (some (w.heap.size+1+1)):=(an (an (an (World.grownBy.refl WA (some (w.heap.size+1+1))) (p:=⟨w.heap.size+1+1,0,none⟩) (.inl rfl) (.string ⟨#[]⟩)) (p:=⟨w.heap.size+1+1,1,none⟩) (.inl rfl) (.string ⟨#[]⟩)) (p:=⟨w.heap.size+1+1,2,none⟩) (.inl rfl) (.int .i64 0))
   have Q9:=(QQ.out.low GF.out (by omega)).low GG (by omega)
   have F9:=aJ (aJ FR.out (by omega) GF.out) (by omega) GG
   have hsz:w2.heap.size≤(((WA.setCell ⟨w.heap.size+1+1,0,none⟩ (.string ⟨#[]⟩)).setCell ⟨w.heap.size+1+1,1,none⟩ (.string ⟨#[]⟩)).setCell ⟨w.heap.size+1+1,2,none⟩ (.int .i64 0)).heap.size:=Nat.le_trans (Nat.le_of_lt hkb) (Nat.le_trans GF.out.size GG.size)
   generalize (((WA.setCell ⟨w.heap.size+1+1,0,none⟩ (.string ⟨#[]⟩)).setCell ⟨w.heap.size+1+1,1,none⟩ (.string ⟨#[]⟩)).setCell ⟨w.heap.size+1+1,2,none⟩ (.int .i64 0))=WB at *
   refine bodyPost_ret (IK rfl rfl ZG RG) rfl ⟨LG,.inr ⟨C.out,q,A,c,w2.heap.size,l',by rw[HL'.out];rfl,AL.out,PM.out,SO.out,Q9,hsz,?_⟩⟩
   rw[HL'.out];exact F9
  obtain⟨x,hx⟩:∃ x,b.ents[k]?=some x:=⟨_,gG hlt⟩
  obtain⟨bq,off,hA,hel⟩:=((HO.out.ents.below HP.out.bel).row).elem bP k x hx
  have hix:=fun W=>aH (T:=28) (E:=35) (sz:=10) (c:=b.ec) Tryz.underlying28 rfl Tryz.sizeOf35 hA hlt W
  have e0:=hel 0 _ rfl
  have e1:=hel 1 _ rfl
  have e2:=hel 2 _ rfl
  have e3:=hel 3 _ rfl
  have e4:=hel 4 _ rfl
  have e5:=hel 5 _ rfl
  have e6:=hel 6 _ rfl
  have e7:=hel 7 _ rfl
  have e8:=hel 8 _ rfl
  have e9:=hel 9 _ rfl
  simp only[Nat.add_zero] at e0
  have HX:=ae hx
  have SX:=ae (HS.out.ents_ x (gM hx))
  clear hx hA hel
  obtain⟨W4,hW4⟩:∃ W4,wr.alloc (.cells #[.string x.path,.int .i64 x.kind,.int .i64 x.mode,.int .i64 x.uid,.int .i64 x.gid,.string x.owner,.string x.group,.int .i64 x.mtime,.string x.link,.slice x.da x.data.length x.dc] 35)=W4:=⟨_,rfl⟩
  obtain⟨W5,hW5⟩:∃ W5,W4.alloc (.cells #[.string x.path,.int .i64 x.kind,.int .i64 x.mode,.string x.owner,.string x.group,.string ⟨#[]⟩,.string ⟨#[]⟩,.bool false] 56)=W5:=⟨_,rfl⟩
  have hs4:W4.heap.size=wr.heap.size+1:=by rw[←hW4];simp
  have L5:Hid (Below wr.heap.size wr W5):=by show Below _ _ _;rw[←hW5,←hW4];exact(bR.alloc lr _).alloc (by simp) _
  have X4:Hid (av W4 wr.heap.size x.cells):=by show av _ _ _;rw[←hW4];exact av.new wr x.cells _
  have X5:Hid (av W5 wr.heap.size x.cells):=by show av _ _ _;rw[←hW5];exact X4.out.alloc _
  have F5:Hid (av W5 (wr.heap.size+1) [.string x.path,.int .i64 x.kind,.int .i64 x.mode,.string x.owner,.string x.group,.string ⟨#[]⟩,.string ⟨#[]⟩,.bool false]):=by show av _ _ _;rw[←hW5,←hs4];exact av.new W4 [.string x.path,.int .i64 x.kind,.int .i64 x.mode,.string x.owner,.string x.group,.string ⟨#[]⟩,.string ⟨#[]⟩,.bool false] _
  have c0:=X4.out.cell 0 _ rfl
  have c1:=X4.out.cell 1 _ rfl
  have c2:=X4.out.cell 2 _ rfl
  have c5:=X4.out.cell 5 _ rfl
  have c6:=X4.out.cell 6 _ rfl
  have HW5:=ae hW5
  clear hW5
  go_upto_block 2 with(fail)
  rw[HW5.out]
  clear hs4 c0 c1 c2 c5 c6 hix hW4 HW5 e0 e1 e2 e3 e4 e5 e6 e7 e8 e9
  go_cut [] (fun wx=>Hid (Below wr.heap.size wr wx)∧Hid (av wx wr.heap.size x.cells)∧Hid (av wx (wr.heap.size+1) (FX fmt b.conf (bM fmt b.conf (b.ents.take k)) x)))
  case first=>
   have hl1:=X5.out.sz
   have hl2:=F5.out.sz
   by_cases k1:x.kind=1
   case pos=>
    have q1:(x.kind==1)=true:=by simpa using k1
    have K1:=ae k1
    clear k1
    have cx9:=X5.out.cell 9 _ rfl
    have f6:=F5.out.cell 6 _ rfl
    have fr6:=F5.out.free 6 (by simp)
    have DR:Hid (Rd W5 1 x.da x.data.length (x.data.map vb)):=(HO.out.ents.all x (gM HX.out)).below (ap HP.out.bel L5.out)
    have GT:Hid (qj W5):=HT.out.below (ap HP.out.bel L5.out)
    have hdc:=SX.out.cap
    have hdm:=SX.out.capM
    have hdl:=SX.out.data
    go_wp2_with fail
    go_region_held3 (fun w'=>w'.cell? ⟨wr.heap.size,9,none⟩=some (.slice x.da x.data.length x.dc))
     (first
       | exact cx9
       | exact(hb6.cell (p:=⟨wr.heap.size,9,none⟩) hl1).trans cx9
       | exact(hb7.cell (p:=⟨wr.heap.size,9,none⟩) (Nat.lt_of_lt_of_le hl1 hb6.size)).trans ((hb6.cell (p:=⟨wr.heap.size,9,none⟩) hl1).trans cx9)
       | (rw[World.cell?_setCell_other (h:=by intro h;injection h with h;omega)];exact(hb7.cell (p:=⟨wr.heap.size,9,none⟩) (Nat.lt_of_lt_of_le hl1 hb6.size)).trans ((hb6.cell (p:=⟨wr.heap.size,9,none⟩) hl1).trans cx9)))
     (first
       | (go_at_call 22;(with_reducible refine(IJ HFM.out _).mono ?_);rintro e w' ⟨rfl,rfl⟩)
       | (go_at_call 21;refine(Fr (JX fmt) x.data.length x.dc (LZ fmt) x.da x.data W5.drew (GT.out.below (show Below W5.heap.size W5 W5.drew from⟨rfl,rfl,rfl,lr,fun _ _=>rfl⟩)) DR.out.drew hdc hdm (by omega)).mono ?_;rintro e w6 ⟨dv,rfl,row,hb6⟩;obtain⟨A6,c6,rfl⟩:=aL row;have RD6:=ae (cP row);clear row)
       | (go_at_call 20;refine(Fk (fh (JX fmt) x.data).length _ _ (fh (JX fmt) x.data) _ (by exact RD6.out) (BJ _ _)).mono ?_;rintro e w7 ⟨rfl,hb7⟩;have f7:=(hb7.cell (p:=⟨wr.heap.size+1,6,none⟩) (Nat.lt_of_lt_of_le hl2 hb6.size)).trans ((hb6.cell (p:=⟨wr.heap.size+1,6,none⟩) hl2).trans f6);have fr7:=(hb7.frozen (p:=⟨wr.heap.size+1,6,none⟩) (Nat.lt_of_lt_of_le hl2 hb6.size)).trans ((hb6.frozen (p:=⟨wr.heap.size+1,6,none⟩) hl2).trans fr6)))
    all_goals
     have B7:Hid (Below W5.heap.size W5 w7):=ap (show Below W5.heap.size W5 w6 from⟨hb6.os,hb6.tape,hb6.output,hb6.size,hb6.block⟩) hb7
     have X7:=ae (X5.out.below B7.out)
     have F7:=ae (F5.out.below B7.out)
     have L7:=ae (ap L5.out B7.out)
     clear hb6 hb7 f7 fr7 cx9 f6 fr6 DR GT hdc hdm hdl RD6
     go_wp2_with fail
     go_meet
     refine⟨ag L7.out (Nat.le_succ _) _,X7.out.far (by omega) _,?_⟩
     have h:=F7.out.set 6 (by simp) (.string ⟨(oj (fh (JX fmt) x.data)).toArray⟩)
     show av _ _ _
     rw[LY K1.out];exact h
   have q1:(x.kind==1)=false:=by simpa using k1
   by_cases k4:x.kind=4
   case pos=>
    have q4:(x.kind==4)=true:=by simpa using k4
    have K4:=ae k4
    clear k4 k1
    have cx8:=X5.out.cell 8 _ rfl
    have f1:=F5.out.cell 1 _ rfl
    have fr1:=F5.out.free 1 (by simp)
    have f6:=F5.out.cell 6 _ rfl
    have fr6:=F5.out.free 6 (by simp)
    have L6:Hid (Below wr.heap.size wr (W5.setCell ⟨wr.heap.size+1,1,none⟩ (.int .i64 1))):=ag L5.out (Nat.le_succ _) _
    have hlk:=(HP.out.grow L6.out).sm.look Tryz.underlying60 Fx x.link (by have:=SX.out.link;unfold maxLen;omega)
    obtain⟨y,hy⟩:∃ y:ax,(LO (bM fmt b.conf (b.ents.take k)) x.link).getD IL=.agg #[.string y.path,.int .i64 y.kind,.int .i64 y.mode,.string y.owner,.string y.group,.string y.link,.string y.sum,.bool y.conf]∧((kD (bM fmt b.conf (b.ents.take k)) x.link).map ax.sum).getD ⟨#[]⟩=y.sum:=by
     unfold LO
     cases kD (bM fmt b.conf (b.ents.take k)) x.link with
     | none=>exact⟨⟨⟨#[]⟩,0,0,⟨#[]⟩,⟨#[]⟩,⟨#[]⟩,⟨#[]⟩,false⟩,rfl,rfl⟩
     | some y=>exact⟨y,rfl,rfl⟩
    rw[hy.1] at hlk
    have YS:=ae hy.2
    have hfd:=fun W=>Kf y W
    clear hy
    go_wp2_with fail
    go_meet
    refine⟨ag L6.out (Nat.le_succ _) _,(X5.out.far (by omega) _).far (by omega) _,?_⟩
    have h:=(F5.out.set 1 (by simp) (.int .i64 1)).set 6 (by simp) (.string y.sum)
    show av _ _ _
    rw[Kg K4.out,YS.out];exact h
   have q4:(x.kind==4)=false:=by simpa using k4
   by_cases k3:x.kind=3
   case pos=>
    have q3:(x.kind==3)=true:=by simpa using k3
    have K3:=ae k3
    clear k4 k1 k3
    have cx8:=X5.out.cell 8 _ rfl
    have f5:=F5.out.cell 5 _ rfl
    have fr5:=F5.out.free 5 (by simp)
    go_wp2_with fail
    go_meet
    refine⟨ag L5.out (Nat.le_succ _) _,X5.out.far (by omega) _,?_⟩
    have h:=F5.out.set 5 (by simp) (.string x.link)
    show av _ _ _
    rw[Kh K3.out];exact h
   have q3:(x.kind==3)=false:=by simpa using k3
   have F6:Hid (av W5 (wr.heap.size+1) (FX fmt b.conf (bM fmt b.conf (b.ents.take k)) x)):=by
    show av _ _ _
    rw[Ki k1 k4 k3];exact F5.out
   clear k1 k3 k4
   go_wp2_with fail
   go_meet
   exact⟨L5,X5,F6⟩
  case rest=>
   obtain⟨L6,X6,F6⟩:=hcut
   clear L5 X5 F5 X4
   obtain⟨kf,hkf⟩:∃ kf,je fmt b.conf (bM fmt b.conf (b.ents.take k)) x=kf:=⟨_,rfl⟩
   have kp:kf.path=x.path:=by rw[←hkf];rfl
   have F7:Hid (av (wc.setCell ⟨wr.heap.size+1,7,none⟩ (.bool (FV b.conf x.path))) (wr.heap.size+1) kf.cells):=by
    show av _ _ _
    rw[←hkf];exact F6.out.set 7 (by simp[FX]) (.bool (FV b.conf x.path))
   have X7:Hid (av (wc.setCell ⟨wr.heap.size+1,7,none⟩ (.bool (FV b.conf x.path))) wr.heap.size x.cells):=X6.out.far (by omega) _
   have P7:=ae (HP.out.grow (show Below wr.heap.size wr (wc.setCell ⟨wr.heap.size+1,7,none⟩ (.bool (FV b.conf x.path))) from ag L6.out (Nat.le_succ _) _))
   have PF:Hid (bM fmt b.conf (b.ents.take (k+1))=bM fmt b.conf (b.ents.take k)++[kf]):=by show _=_;rw[jf HX.out,wV,hkf]
   have FLN:Hid ((bM fmt b.conf (b.ents.take k)).length=k):=by show _=_;unfold bM;rw[lq];simp;omega
   have KP:=ae kp
   clear hkf kp
   obtain⟨w8,hrun,hm8,hg8⟩:=P7.out.sm.put Tryz.underlying60 (by rw[FLN.out];unfold maxLen;omega) x.path (by have:=SX.out.path;unfold maxLen;omega) (zo kf)
   unfold zo at hrun
   rw[←KP.out] at hm8
   have P8:=ae (P7.out.mapped hm8 hg8)
   have hkb:w2.heap.size+1<wr.heap.size:=HP.out.sm.lt
   have F8:Hid (av w8 (wr.heap.size+1) kf.cells):=F7.out.grownC hg8 (by omega)
   clear hm8 hg8
   have b9:=(HP.out.grow L6.out).bu.cell 9 _ rfl
   have cx0:=X6.out.cell 0 _ rfl
   have f7:=F6.out.cell 7 _ rfl
   have fr7:=F6.out.free 7 (by simp[FX])
   go_wp2_with fail
   refine(BH b.ca b.cc b.conf x.path _ (HO.out.conf.below (ap HP.out.bel L6.out)) HS.out.conf).mono ?_;rintro e w' ⟨⟨nn,rfl⟩,rfl⟩
   clear b9
   have cx0:=X7.out.cell 0 _ rfl
   have u0:=F7.out.cell 0 _ rfl
   have u1:=F7.out.cell 1 _ rfl
   have u2:=F7.out.cell 2 _ rfl
   have u3:=F7.out.cell 3 _ rfl
   have u4:=F7.out.cell 4 _ rfl
   have u5:=F7.out.cell 5 _ rfl
   have u6:=F7.out.cell 6 _ rfl
   have u7:=F7.out.cell 7 _ rfl
   have v0:=F8.out.cell 0 _ rfl
   have v1:=F8.out.cell 1 _ rfl
   have v2:=F8.out.cell 2 _ rfl
   have v3:=F8.out.cell 3 _ rfl
   have v4:=F8.out.cell 4 _ rfl
   have v5:=F8.out.cell 5 _ rfl
   have v6:=F8.out.cell 6 _ rfl
   have v7:=F8.out.cell 7 _ rfl
   have k7:=P8.out.kv.cell 7 _ rfl
   obtain⟨i0,hi0,hz0,hz1,hz2'⟩:=info_parts BK
   have hl8:=F8.out.sz
   have hkb8:=P8.out.kv.sz
   have hb8:=P8.out.bel.size
   have hlo8:=P8.out.lo
   go_wp2_with (
    at_builtin
    refine au _ rfl _ _ 24 rfl (w.heap.size+3) 56 i0 _ 8 104 Tryz.underlying24 hi0 hz0 hz1 hz2' rfl (by omega) (.slice A k c) k _ rfl (by have h:=P8.out.fr;rw[FLN.out] at h;exact h.alloc _) (w8.heap.size+1) (some ⟨w8.heap.size,0,none⟩) 1 1 kf.cells rfl (BM w8 _ kf) (qO kf) (by simp only[maxLen];omega) (by omega) (by simp;omega) ?_
    intro v9 w9 o9 g9 a9
    obtain⟨A9,c9,rfl⟩:=aL o9
    have P9:Hid (CM w (w9.setCell ⟨w2.heap.size,7,none⟩ (.slice A9 (k+1) c9)) b q w2.heap.size (.slice A9 (k+1) c9) (bM fmt b.conf (b.ents.take (k+1))) (bM fmt b.conf (b.ents.take (k+1)))):=by
     have h:=(P8.out.grow (show Below w8.heap.size w8 (w8.alloc (.cells #[.string kf.path,.int .i64 kf.kind,.int .i64 kf.mode,.string kf.owner,.string kf.group,.string kf.link,.string kf.sum,.bool kf.conf] 56)) from bR.alloc lr _)).app (x:=kf) (v1:=.slice A9 (k+1) c9) (w1:=w9) (by rw[FLN.out];exact o9) g9 a9
     show CM _ _ _ _ _ _ _ _
     rw[PF.out];exact h
    have K9:=ae ((P8.out.kv.alloc (.cells #[.string kf.path,.int .i64 kf.kind,.int .i64 kf.mode,.string kf.owner,.string kf.group,.string kf.link,.string kf.sum,.bool kf.conf] 56)).grownO g9 P8.out.f1)
    have k9:=K9.out.cell 7 _ rfl
    have k9f:=K9.out.free 7 (by show 7<9;decide)
    clear o9 g9 a9)
   go_roundw
   case rel=>exact⟨k+1,A9,c9,by omega,by go_num,P9⟩
   case measure=>simp[intOf];omega
end
end Go.Proofs.YtlglfpbhapmhiaaGreatDoor
