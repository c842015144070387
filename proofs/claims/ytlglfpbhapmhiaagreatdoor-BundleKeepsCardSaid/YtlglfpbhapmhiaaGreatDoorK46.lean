/- A part of the proof. -/
import Derived.Test.YtlglfpbhapmhiaaGreatDoorK38
import Derived.Test.YtlglfpbhapmhiaaGreatDoorK43
set_option maxRecDepth 100000
set_option maxHeartbeats 20000000
set_option linter.unusedVariables false
set_option linter.unusedSimpArgs false
namespace Go.Proofs.YtlglfpbhapmhiaaGreatDoor
section
open Go.RowKit Go.Maps
structure IS (w wr:World) (x:am):Prop where
 one:av wr w.heap.size x.cells
 two:av wr (w.heap.size+1) (xa x w.heap.size).cells
 bel:Below w.heap.size w wr
theorem IS.step {w wr w':World}{x:am}(h:IS w wr x)(hb:Below wr.heap.size wr w'):IS w w' x:=⟨h.one.below hb,h.two.below hb,ap h.bel hb⟩
theorem IS.start (w:World):IS w ((w.alloc (.cells #[.string ⟨#[97]⟩,.int .i64 1,.int .i64 0,.int .i64 0,.int .i64 0,.string ⟨#[]⟩,.string ⟨#[114,111,111,116]⟩,.int .i64 0,.string ⟨#[]⟩,.slice none 0 0] 35)).alloc (.cells #[.string ⟨#[97,97]⟩,.string ⟨#[49,45,49]⟩,.string ⟨#[97,108,108]⟩,.string ⟨#[115]⟩,.slice none 0 0,.slice none 0 0,.slice none 0 0,.slice none 0 0,.slice none 0 0,.slice none 0 0,.slice (some ⟨w.heap.size,0,none⟩) 1 1] 30)) zx:=by
 have h2:=av.new (w.alloc (.cells #[.string ⟨#[97]⟩,.int .i64 1,.int .i64 0,.int .i64 0,.int .i64 0,.string ⟨#[]⟩,.string ⟨#[114,111,111,116]⟩,.int .i64 0,.string ⟨#[]⟩,.slice none 0 0] 35)) (xa zx w.heap.size).cells 30
 simp only[World.size_alloc] at h2
 exact⟨(av.new w zx.cells _).alloc _,h2,(bR.alloc lr _).alloc (by simp) _⟩
theorem IS.ok {w wr:World}{x:am}(h:IS w wr x)(hd:x.data=[]):(xa x w.heap.size).ok wr:=by
 refine⟨⟨Rd.nil _ _ _,Rd.nil _ _ _,Rd.nil _ _ _,Rd.nil _ _ _,Rd.nil _ _ _⟩,Rd.nil _ _ _,⟨⟨rfl,fun _=>⟨_,0,rfl,fun j u hu=>?_⟩⟩,fun y hy=>?_⟩⟩
 ·rw[Nat.zero_add];exact h.one.cell j u (by simpa [xa] using hu)
 ·have:y=x:=by simpa [xa] using hy
  rw[this,hd];exact Rd.nil _ _ _
theorem vx (x:am)(h:x.small)(g:Nat):(xa x g).small:=by
 refine⟨?_,?_,by simp[xa],by simp[xa],by simp[xa],fun y hy=>?_⟩
 ·constructor<;>simp[xa,M0]<;>decide
 ·constructor<;>simp[xa,M0]
 ·have:y=x:=by simpa [xa] using hy
  rw[this];exact h
theorem BR:zx.small:=by constructor<;>decide
theorem BT:zy.small:=by constructor<;>decide
theorem Mc (g:Nat):tr 1 (xa zx g)=.agg #[.string ⟨#[97,97]⟩,.string ⟨#[97]⟩,.int .i64 1]:=by unfold tr;rw[Kq];rfl
theorem FD (w:World)(hG:wn w)(hT:qj w):Calls Tryz.prog 5 #[] w fun e w'=>e=.returned (.bool true)∧Below w.heap.size w w':=by
 have HG:=ae hG
 have HT:=ae hT
 clear hG hT
 obtain⟨W0,hW0⟩:∃ W0,((w.alloc (.cells #[.string ⟨#[97]⟩,.int .i64 1,.int .i64 0,.int .i64 0,.int .i64 0,.string ⟨#[]⟩,.string ⟨#[114,111,111,116]⟩,.int .i64 0,.string ⟨#[]⟩,.slice none 0 0] 35)).alloc (.cells #[.string ⟨#[97,97]⟩,.string ⟨#[49,45,49]⟩,.string ⟨#[97,108,108]⟩,.string ⟨#[115]⟩,.slice none 0 0,.slice none 0 0,.slice none 0 0,.slice none 0 0,.slice none 0 0,.slice none 0 0,.slice (some ⟨w.heap.size,0,none⟩) 1 1] 30))=W0:=⟨_,rfl⟩
 have P0:Hid (IS w W0 zx):=by show IS _ _ _;rw[←hW0];exact IS.start w
 have BC:Calls Tryz.prog 11 #[.int .i64 1,.agg #[.string ⟨#[97,97]⟩,.string ⟨#[49,45,49]⟩,.string ⟨#[97,108,108]⟩,.string ⟨#[115]⟩,.slice none 0 0,.slice none 0 0,.slice none 0 0,.slice none 0 0,.slice none 0 0,.slice none 0 0,.slice (some ⟨w.heap.size,0,none⟩) 1 1]] ((w.alloc (.cells #[.string ⟨#[97]⟩,.int .i64 1,.int .i64 0,.int .i64 0,.int .i64 0,.string ⟨#[]⟩,.string ⟨#[114,111,111,116]⟩,.int .i64 0,.string ⟨#[]⟩,.slice none 0 0] 35)).alloc (.cells #[.string ⟨#[97,97]⟩,.string ⟨#[49,45,49]⟩,.string ⟨#[97,108,108]⟩,.string ⟨#[115]⟩,.slice none 0 0,.slice none 0 0,.slice none 0 0,.slice none 0 0,.slice none 0 0,.slice none 0 0,.slice (some ⟨w.heap.size,0,none⟩) 1 1] 30)) (fun e w'=>e=.returned (.agg #[.string ⟨#[97,97]⟩,.string ⟨#[97]⟩,.int .i64 1])∧Below W0.heap.size W0 w'):=by
  rw[hW0]
  have h:=kB 1 (xa zx w.heap.size) W0 (HG.out.below P0.out.bel) (P0.out.ok rfl) (vx _ BR _)
  rw[Mc] at h
  exact h
 clear hW0
 go_enter Tryz.func5,Tryz.ntmps5
 go_wp2_with fail
 refine BC.mono ?_;rintro e w1 ⟨rfl,hb1⟩
 have P1:=ae (P0.out.step hb1)
 clear BC hb1 P0
 go_upto_region 3 with(fail)
 have L2:Hid (Below w1.heap.size w1 (w1.alloc (.cells #[.string ⟨#[97,97]⟩,.string ⟨#[97]⟩,.int .i64 1] 38))):=bR.alloc lr _
 have R2:Hid (av (w1.alloc (.cells #[.string ⟨#[97,97]⟩,.string ⟨#[97]⟩,.int .i64 1] 38)) w1.heap.size [.string ⟨#[97,97]⟩,.string ⟨#[97]⟩,.int .i64 1]):=av.new w1 _ _
 have P2:=ae (P1.out.step L2.out)
 have hz:=P1.out.two.sz
 generalize hW2:(w1.alloc (.cells #[.string ⟨#[97,97]⟩,.string ⟨#[97]⟩,.int .i64 1] 38))=w2 at *
 clear hW2
 have b10:w2.cell? ⟨w.heap.size+1,10,none⟩=some (.slice (some ⟨w.heap.size,0,none⟩) 1 1):=P2.out.two.cell 10 _ rfl
 have e5:=P2.out.one.cell 5 _ rfl
 have f5:=P2.out.one.free 5 (by show 5<10;decide)
 go_upto_region 4 with(fail)
 clear b10 e5 f5
 have P3:Hid (IS w (w2.setCell ⟨w.heap.size,5,none⟩ (.string ⟨#[114,111,111,116]⟩)) zy):=⟨P2.out.one.set 5 (by show 5<10;decide) _,P2.out.two.far (by omega) _,ag P2.out.bel lr _⟩
 have R3:Hid (av (w2.setCell ⟨w.heap.size,5,none⟩ (.string ⟨#[114,111,111,116]⟩)) w1.heap.size [.string ⟨#[97,97]⟩,.string ⟨#[97]⟩,.int .i64 1]):=R2.out.far (by omega) _
 have GE3:Hid (wn (w2.setCell ⟨w.heap.size,5,none⟩ (.string ⟨#[114,111,111,116]⟩))):=HG.out.below P3.out.bel
 have GT3:Hid (qj (w2.setCell ⟨w.heap.size,5,none⟩ (.string ⟨#[114,111,111,116]⟩))):=HT.out.below P3.out.bel
 generalize (w2.setCell ⟨w.heap.size,5,none⟩ (.string ⟨#[114,111,111,116]⟩))=w3 at *
 clear P1 P2 R2 L2
 have b0:w3.cell? ⟨w.heap.size+1,0,none⟩=some (.string ⟨#[97,97]⟩):=P3.out.two.cell 0 _ rfl
 have b1:w3.cell? ⟨w.heap.size+1,1,none⟩=some (.string ⟨#[49,45,49]⟩):=P3.out.two.cell 1 _ rfl
 have b2:w3.cell? ⟨w.heap.size+1,2,none⟩=some (.string ⟨#[97,108,108]⟩):=P3.out.two.cell 2 _ rfl
 have b3:w3.cell? ⟨w.heap.size+1,3,none⟩=some (.string ⟨#[115]⟩):=P3.out.two.cell 3 _ rfl
 have b4:w3.cell? ⟨w.heap.size+1,4,none⟩=some (.slice none 0 0):=P3.out.two.cell 4 _ rfl
 have b5:w3.cell? ⟨w.heap.size+1,5,none⟩=some (.slice none 0 0):=P3.out.two.cell 5 _ rfl
 have b6:w3.cell? ⟨w.heap.size+1,6,none⟩=some (.slice none 0 0):=P3.out.two.cell 6 _ rfl
 have b7:w3.cell? ⟨w.heap.size+1,7,none⟩=some (.slice none 0 0):=P3.out.two.cell 7 _ rfl
 have b8:w3.cell? ⟨w.heap.size+1,8,none⟩=some (.slice none 0 0):=P3.out.two.cell 8 _ rfl
 have b9:w3.cell? ⟨w.heap.size+1,9,none⟩=some (.slice none 0 0):=P3.out.two.cell 9 _ rfl
 have b10:w3.cell? ⟨w.heap.size+1,10,none⟩=some (.slice (some ⟨w.heap.size,0,none⟩) 1 1):=P3.out.two.cell 10 _ rfl
 have hz3:=R3.out.sz
 have BP:Calls Tryz.prog 7 #[.int .i64 1,.agg #[.string ⟨#[97,97]⟩,.string ⟨#[49,45,49]⟩,.string ⟨#[97,108,108]⟩,.string ⟨#[115]⟩,.slice none 0 0,.slice none 0 0,.slice none 0 0,.slice none 0 0,.slice none 0 0,.slice none 0 0,.slice (some ⟨w.heap.size,0,none⟩) 1 1]] w3 (II 1 (xa zy w.heap.size) w3):=ly 1 (xa zy w.heap.size) w3 GE3.out GT3.out (P3.out.ok rfl) (vx _ BT _)
 go_wp2_with fail
 clear b0 b1 b2 b3 b4 b5 b6 b7 b8 b9 b10
 refine BP.mono ?_;rintro e w4 ⟨hb4,⟨hbad,_⟩ | ⟨_,q,A,c,hi,l,rfl,hal,hperm,hpw,hq4,hhi,how⟩⟩
 ·exact absurd (Mb _) hbad
 have hl:∃ f:ax,l=[f]∧f.sum=⟨#[100,52,49,100,56,99,100,57,56,102,48,48,98,50,48,52,101,57,56,48,48,57,57,56,101,99,102,56,52,50,55,101]⟩:=by
  have h1:(bM 1 [] [zy]).length=1:=rfl
  have h2:=hperm.length_eq.trans h1
  obtain⟨f,rfl⟩:=List.length_eq_one_iff.1 h2
  refine⟨f,rfl,?_⟩
  have h3:=(hperm.map ax.sum).symm
  have h4:(bM 1 [] [zy]).map ax.sum=_:=Kr
  simp only[xa] at h3
  rw[h4] at h3
  have h5:=List.perm_singleton.1 h3.symm
  simpa using h5
 obtain⟨f,rfl,hsum⟩:=hl
 have P4:=ae (P3.out.step hb4)
 have R4:=ae (R3.out.below hb4)
 obtain⟨g,hgA,hglo,hglt,_⟩:=fE how (by simp)
 subst hgA
 have F4:Hid (av w4 g f.cells):=by
  have h:=(cP how).2 (by simp)
  obtain⟨b,o,hbo,hc⟩:=h
  have hgo:g=b∧o=0:=by injection hbo with hbo;injection hbo with h1 h2 _;exact⟨h1,h2.symm⟩
  obtain⟨rfl,rfl⟩:=hgo
  exact⟨hglt,fun j u hu=>by have:=hc j u (by simpa using hu);rwa [Nat.zero_add] at this,fun j _=>how.frozenAt j⟩
 clear BP hb4 hal hperm hpw hq4 hhi P3 R3 GE3 GT3 how
 unfold M9
 go_upto_region 5 with(fail)
 have L5:Hid (Below w4.heap.size w4 ((w4.alloc (.cells #[.string q.nm,.string q.ver,.string q.ar,.string q.sm,.slice q.na q.needs.length q.nc,.slice q.ba q.bars.length q.bc,.slice q.ga q.gives.length q.gc,.slice (some ⟨g,0,none⟩) 1 c,.slice q.sa q.scripts.length q.sc] 27)).alloc (.cells #[.string ⟨#[]⟩,.string ⟨#[]⟩,.int .i64 0] 38))):=(bR.alloc lr _).alloc (by simp) _
 have K5:Hid (av ((w4.alloc (.cells #[.string q.nm,.string q.ver,.string q.ar,.string q.sm,.slice q.na q.needs.length q.nc,.slice q.ba q.bars.length q.bc,.slice q.ga q.gives.length q.gc,.slice (some ⟨g,0,none⟩) 1 c,.slice q.sa q.scripts.length q.sc] 27)).alloc (.cells #[.string ⟨#[]⟩,.string ⟨#[]⟩,.int .i64 0] 38)) w4.heap.size [.string q.nm,.string q.ver,.string q.ar,.string q.sm,.slice q.na q.needs.length q.nc,.slice q.ba q.bars.length q.bc,.slice q.ga q.gives.length q.gc,.slice (some ⟨g,0,none⟩) 1 c,.slice q.sa q.scripts.length q.sc]):=(av.new w4 _ _).alloc _
 have S5:Hid (av ((w4.alloc (.cells #[.string q.nm,.string q.ver,.string q.ar,.string q.sm,.slice q.na q.needs.length q.nc,.slice q.ba q.bars.length q.bc,.slice q.ga q.gives.length q.gc,.slice (some ⟨g,0,none⟩) 1 c,.slice q.sa q.scripts.length q.sc] 27)).alloc (.cells #[.string ⟨#[]⟩,.string ⟨#[]⟩,.int .i64 0] 38)) (w4.heap.size+1) [.string ⟨#[]⟩,.string ⟨#[]⟩,.int .i64 0]):=by
  have h:=av.new (w4.alloc (.cells #[.string q.nm,.string q.ver,.string q.ar,.string q.sm,.slice q.na q.needs.length q.nc,.slice q.ba q.bars.length q.bc,.slice q.ga q.gives.length q.gc,.slice (some ⟨g,0,none⟩) 1 c,.slice q.sa q.scripts.length q.sc] 27)) [.string ⟨#[]⟩,.string ⟨#[]⟩,.int .i64 0] 38
  simp only[World.size_alloc] at h
  exact h
 have R5:=ae (R4.out.below L5.out)
 have F5:=ae (F4.out.below L5.out)
 have P5:=ae (P4.out.step L5.out)
 generalize ((w4.alloc (.cells #[.string q.nm,.string q.ver,.string q.ar,.string q.sm,.slice q.na q.needs.length q.nc,.slice q.ba q.bars.length q.bc,.slice q.ga q.gives.length q.gc,.slice (some ⟨g,0,none⟩) 1 c,.slice q.sa q.scripts.length q.sc] 27)).alloc (.cells #[.string ⟨#[]⟩,.string ⟨#[]⟩,.int .i64 0] 38))=w5 at *
 have r0:w5.cell? ⟨w1.heap.size,0,none⟩=some (.string ⟨#[97,97]⟩):=R5.out.cell 0 _ rfl
 have r1:w5.cell? ⟨w1.heap.size,1,none⟩=some (.string ⟨#[97]⟩):=R5.out.cell 1 _ rfl
 have r2:w5.cell? ⟨w1.heap.size,2,none⟩=some (.int .i64 1):=R5.out.cell 2 _ rfl
 have s0:w5.cell? ⟨w4.heap.size+1,0,none⟩=some (.string ⟨#[]⟩):=S5.out.cell 0 _ rfl
 have s1:w5.cell? ⟨w4.heap.size+1,1,none⟩=some (.string ⟨#[]⟩):=S5.out.cell 1 _ rfl
 have s2:w5.cell? ⟨w4.heap.size+1,2,none⟩=some (.int .i64 0):=S5.out.cell 2 _ rfl
 have k7:w5.cell? ⟨w4.heap.size,7,none⟩=some (.slice (some ⟨g,0,none⟩) 1 c):=K5.out.cell 7 _ rfl
 have u6:w5.cell? ⟨g,6,none⟩=some (.string f.sum):=F5.out.cell 6 _ rfl
 rw[hsum] at u6
 clear hsum
 go_wp2_with fail
 go_ret
 exact⟨rfl,P5.out.bel⟩
end
end Go.Proofs.YtlglfpbhapmhiaaGreatDoor
