/- A part of the proof. -/
import Derived.Test.YtlglfpbhapmhiaaGreatDoorL44
import Derived.Test.YtlglfpbhapmhiaaGreatDoorL45
set_option maxRecDepth 100000
set_option maxHeartbeats 20000000
set_option linter.unusedVariables false
set_option linter.unusedSimpArgs false
namespace Go.Proofs.YtlglfpbhapmhiaaGreatDoor
variable{s:BA}{fmt:Int}{conf:List BA}{c k:Nat}{A:OA}{w wr:World}
section
open Go.RowKit Go.Maps
structure NB (w wr:World) (x:ag):Prop where
 one:ax wr w.heap.size x.cells
 two:ax wr (w.heap.size+1) (Ay x w.heap.size).cells
 bel:Below w.heap.size w wr
theorem NB.step {w':World}{x:ag}(h:NB w wr x)(hb:Below wr.heap.size wr w'):NB w w' x:=⟨h.one.below hb,h.two.below hb,aq h.bel hb⟩
theorem NB.start (w:World):NB w ((w.alloc (.cells #[.string ⟨#[97]⟩,.int .i64 1,.int .i64 0,.int .i64 0,.int .i64 0,.string ⟨#[]⟩,.string ⟨#[114,111,111,116]⟩,.int .i64 0,.string ⟨#[]⟩,.slice none 0 0] 35)).alloc (.cells #[.string ⟨#[97,97]⟩,.string ⟨#[49,45,49]⟩,.string ⟨#[97,108,108]⟩,.string ⟨#[115]⟩,.slice none 0 0,.slice none 0 0,.slice none 0 0,.slice none 0 0,.slice none 0 0,.slice none 0 0,.slice (some ⟨w.heap.size,0,none⟩) 1 1] 30)) Do:=by
 have h2:=ax.new (w.alloc (.cells #[.string ⟨#[97]⟩,.int .i64 1,.int .i64 0,.int .i64 0,.int .i64 0,.string ⟨#[]⟩,.string ⟨#[114,111,111,116]⟩,.int .i64 0,.string ⟨#[]⟩,.slice none 0 0] 35)) (Ay Do w.heap.size).cells 30;simp only[World.size_alloc] at h2;exact⟨(ax.new w Do.cells _).alloc _,h2,(bR.alloc lr _).alloc (by simp) _⟩
theorem NB.ok {x:ag}(h:NB w wr x)(hd:x.data=[]):(Ay x w.heap.size).ok wr:=by
 refine⟨⟨Rd.nil _ _ _,Rd.nil _ _ _,Rd.nil _ _ _,Rd.nil _ _ _,Rd.nil _ _ _⟩,Rd.nil _ _ _,⟨⟨rfl,fun _=>⟨_,0,rfl,fun j u hu=>?_⟩⟩,fun y hy=>?_⟩⟩
 ·rw[Nat.zero_add];exact h.one.cell j u (by simpa [Ay] using hu)
 ·have:y=x:=by simpa [Ay] using hy
  rw[this,hd];exact Rd.nil _ _ _
theorem yP (x:ag)(h:x.small)(g:Nat):(Ay x g).small:=by
 refine⟨?_,?_,by simp[Ay],by simp[Ay],by simp[Ay],fun y hy=>?_⟩
 ·constructor<;>simp[Ay,SE]<;>decide
 ·constructor<;>simp[Ay,SE]
 ·have:y=x:=by simpa [Ay] using hy
  rw[this];exact h
theorem Gt:Do.small:=by constructor<;>decide
theorem Gu:Dp.small:=by constructor<;>decide
theorem Rx (g:Nat):tf 1 (Ay Do g)=.agg #[.string ⟨#[97,97]⟩,.string ⟨#[97]⟩,.int .i64 1]:=by unfold tf;rw[PG];rfl
theorem Ku (w:World)(hG:zL w)(hT:td w):Calls Tryz.prog 5 #[] w fun e w'=>e=.returned (.bool true)/\Below w.heap.size w w':=by
 have HG:=ae hG;have HT:=ae hT;clear hG hT;obtain⟨W0,hW0⟩:∃ W0,((w.alloc (.cells #[.string ⟨#[97]⟩,.int .i64 1,.int .i64 0,.int .i64 0,.int .i64 0,.string ⟨#[]⟩,.string ⟨#[114,111,111,116]⟩,.int .i64 0,.string ⟨#[]⟩,.slice none 0 0] 35)).alloc (.cells #[.string ⟨#[97,97]⟩,.string ⟨#[49,45,49]⟩,.string ⟨#[97,108,108]⟩,.string ⟨#[115]⟩,.slice none 0 0,.slice none 0 0,.slice none 0 0,.slice none 0 0,.slice none 0 0,.slice none 0 0,.slice (some ⟨w.heap.size,0,none⟩) 1 1] 30))=W0:=⟨_,rfl⟩
 have P0:Hid (NB w W0 Do):=by show NB _ _ _;rw[<-hW0];exact NB.start w
 have BC:Calls Tryz.prog 11 #[.int .i64 1,.agg #[.string ⟨#[97,97]⟩,.string ⟨#[49,45,49]⟩,.string ⟨#[97,108,108]⟩,.string ⟨#[115]⟩,.slice none 0 0,.slice none 0 0,.slice none 0 0,.slice none 0 0,.slice none 0 0,.slice none 0 0,.slice (some ⟨w.heap.size,0,none⟩) 1 1]] ((w.alloc (.cells #[.string ⟨#[97]⟩,.int .i64 1,.int .i64 0,.int .i64 0,.int .i64 0,.string ⟨#[]⟩,.string ⟨#[114,111,111,116]⟩,.int .i64 0,.string ⟨#[]⟩,.slice none 0 0] 35)).alloc (.cells #[.string ⟨#[97,97]⟩,.string ⟨#[49,45,49]⟩,.string ⟨#[97,108,108]⟩,.string ⟨#[115]⟩,.slice none 0 0,.slice none 0 0,.slice none 0 0,.slice none 0 0,.slice none 0 0,.slice none 0 0,.slice (some ⟨w.heap.size,0,none⟩) 1 1] 30)) (fun e w'=>e=.returned (.agg #[.string ⟨#[97,97]⟩,.string ⟨#[97]⟩,.int .i64 1])/\Below W0.heap.size W0 w'):=by
  rw[hW0];have h:=jK 1 (Ay Do w.heap.size) W0 (HG.out.below P0.out.bel) (P0.out.ok rfl) (yP _ Gt _);rw[Rx] at h;exact h
 clear hW0;go_in;go_wp2_with fail;refine BC.mono ?_;rintro e w1 ⟨rfl,hb1⟩;have P1:=ae (P0.out.step hb1);clear BC hb1 P0;go_upto_region 3 with(fail)
 have L2:Hid (Below w1.heap.size w1 (w1.alloc (.cells #[.string ⟨#[97,97]⟩,.string ⟨#[97]⟩,.int .i64 1] 38))):=bR.alloc lr _;have R2:Hid (ax (w1.alloc (.cells #[.string ⟨#[97,97]⟩,.string ⟨#[97]⟩,.int .i64 1] 38)) w1.heap.size [.string ⟨#[97,97]⟩,.string ⟨#[97]⟩,.int .i64 1]):=ax.new w1 _ _;have P2:=ae (P1.out.step L2.out);have hz:=P1.out.two.sz;generalize hW2:(w1.alloc (.cells #[.string ⟨#[97,97]⟩,.string ⟨#[97]⟩,.int .i64 1] 38))=w2 at *;clear hW2;have b10:w2.cell? ⟨w.heap.size+1,10,none⟩=some (.slice (some ⟨w.heap.size,0,none⟩) 1 1):=P2.out.two.cell 10 _ rfl;have e5:=P2.out.one.cell 5 _ rfl;have f5:=P2.out.one.free 5 (by show 5<10;decide);go_upto_region 4 with(fail)
 clear b10 e5 f5;have P3:Hid (NB w (w2.setCell ⟨w.heap.size,5,none⟩ (.string ⟨#[114,111,111,116]⟩)) Dp):=⟨P2.out.one.set 5 (by show 5<10;decide) _,P2.out.two.far (by omega) _,ai P2.out.bel lr _⟩
 have R3:Hid (ax (w2.setCell ⟨w.heap.size,5,none⟩ (.string ⟨#[114,111,111,116]⟩)) w1.heap.size [.string ⟨#[97,97]⟩,.string ⟨#[97]⟩,.int .i64 1]):=R2.out.far (by omega) _;have GE3:Hid (zL (w2.setCell ⟨w.heap.size,5,none⟩ (.string ⟨#[114,111,111,116]⟩))):=HG.out.below P3.out.bel;have GT3:Hid (td (w2.setCell ⟨w.heap.size,5,none⟩ (.string ⟨#[114,111,111,116]⟩))):=HT.out.below P3.out.bel;generalize (w2.setCell ⟨w.heap.size,5,none⟩ (.string ⟨#[114,111,111,116]⟩))=w3 at *;clear P1 P2 R2 L2;have b0:w3.cell? ⟨w.heap.size+1,0,none⟩=some (.string ⟨#[97,97]⟩):=P3.out.two.cell 0 _ rfl;have b1:w3.cell? ⟨w.heap.size+1,1,none⟩=some (.string ⟨#[49,45,49]⟩):=P3.out.two.cell 1 _ rfl;have b2:w3.cell? ⟨w.heap.size+1,2,none⟩=some (.string ⟨#[97,108,108]⟩):=P3.out.two.cell 2 _ rfl;have b3:w3.cell? ⟨w.heap.size+1,3,none⟩=some (.string ⟨#[115]⟩):=P3.out.two.cell 3 _ rfl;have b4:w3.cell? ⟨w.heap.size+1,4,none⟩=some (.slice none 0 0):=P3.out.two.cell 4 _ rfl;have b5:w3.cell? ⟨w.heap.size+1,5,none⟩=some (.slice none 0 0):=P3.out.two.cell 5 _ rfl;have b6:w3.cell? ⟨w.heap.size+1,6,none⟩=some (.slice none 0 0):=P3.out.two.cell 6 _ rfl;have b7:w3.cell? ⟨w.heap.size+1,7,none⟩=some (.slice none 0 0):=P3.out.two.cell 7 _ rfl;have b8:w3.cell? ⟨w.heap.size+1,8,none⟩=some (.slice none 0 0):=P3.out.two.cell 8 _ rfl;have b9:w3.cell? ⟨w.heap.size+1,9,none⟩=some (.slice none 0 0):=P3.out.two.cell 9 _ rfl;have b10:w3.cell? ⟨w.heap.size+1,10,none⟩=some (.slice (some ⟨w.heap.size,0,none⟩) 1 1):=P3.out.two.cell 10 _ rfl;have hz3:=R3.out.sz;have BP:Calls Tryz.prog 7 #[.int .i64 1,.agg #[.string ⟨#[97,97]⟩,.string ⟨#[49,45,49]⟩,.string ⟨#[97,108,108]⟩,.string ⟨#[115]⟩,.slice none 0 0,.slice none 0 0,.slice none 0 0,.slice none 0 0,.slice none 0 0,.slice none 0 0,.slice (some ⟨w.heap.size,0,none⟩) 1 1]] w3 (Nr 1 (Ay Dp w.heap.size) w3):=nu 1 (Ay Dp w.heap.size) w3 GE3.out GT3.out (P3.out.ok rfl) (yP _ Gu _);go_wp2_with fail;clear b0 b1 b2 b3 b4 b5 b6 b7 b8 b9 b10;refine BP.mono ?_;rintro e w4 ⟨hb4,⟨hbad,_⟩ | ⟨_,q,A,c,hi,l,rfl,hal,hperm,hpw,hq4,hhi,how⟩⟩
 ·exact absurd (Rw _) hbad
 have hl:∃ f:av,l=[f]/\f.sum=⟨#[100,52,49,100,56,99,100,57,56,102,48,48,98,50,48,52,101,57,56,48,48,57,57,56,101,99,102,56,52,50,55,101]⟩:=by
  have h1:(bz 1 [] [Dp]).length=1:=rfl;have h2:=hperm.length_eq.trans h1;obtain⟨f,rfl⟩:=List.length_eq_one_iff.1 h2;refine⟨f,rfl,?_⟩;have h3:=(hperm.map av.sum).symm;have h4:(bz 1 [] [Dp]).map av.sum=_:=PH;simp only[Ay] at h3;rw[h4] at h3;have h5:=List.perm_singleton.1 h3.symm;simpa using h5
 obtain⟨f,rfl,hsum⟩:=hl;have P4:=ae (P3.out.step hb4);have R4:=ae (R3.out.below hb4);obtain⟨g,hgA,hglo,hglt,_⟩:=iR how (by simp);subst hgA;have F4:Hid (ax w4 g f.cells):=by
  have h:=(bD how).2 (by simp);obtain⟨b,o,hbo,hc⟩:=h;have hgo:g=b/\o=0:=by injection hbo with hbo;injection hbo with h1 h2 _;exact⟨h1,h2.symm⟩
  obtain⟨rfl,rfl⟩:=hgo;exact⟨hglt,fun j u hu=>by have:=hc j u (by simpa using hu);rwa [Nat.zero_add] at this,fun j _=>how.frozenAt j⟩
 clear BP hb4 hal hperm hpw hq4 hhi P3 R3 GE3 GT3 how;unfold SG;go_upto_region 5 with(fail)
 have L5:Hid (Below w4.heap.size w4 ((w4.alloc (.cells #[.string q.nm,.string q.ver,.string q.ar,.string q.sm,.slice q.na q.needs.length q.nc,.slice q.ba q.bars.length q.bc,.slice q.ga q.gives.length q.gc,.slice (some ⟨g,0,none⟩) 1 c,.slice q.sa q.scripts.length q.sc] 27)).alloc (.cells #[.string ⟨#[]⟩,.string ⟨#[]⟩,.int .i64 0] 38))):=(bR.alloc lr _).alloc (by simp) _;have K5:Hid (ax ((w4.alloc (.cells #[.string q.nm,.string q.ver,.string q.ar,.string q.sm,.slice q.na q.needs.length q.nc,.slice q.ba q.bars.length q.bc,.slice q.ga q.gives.length q.gc,.slice (some ⟨g,0,none⟩) 1 c,.slice q.sa q.scripts.length q.sc] 27)).alloc (.cells #[.string ⟨#[]⟩,.string ⟨#[]⟩,.int .i64 0] 38)) w4.heap.size [.string q.nm,.string q.ver,.string q.ar,.string q.sm,.slice q.na q.needs.length q.nc,.slice q.ba q.bars.length q.bc,.slice q.ga q.gives.length q.gc,.slice (some ⟨g,0,none⟩) 1 c,.slice q.sa q.scripts.length q.sc]):=(ax.new w4 _ _).alloc _;have S5:Hid (ax ((w4.alloc (.cells #[.string q.nm,.string q.ver,.string q.ar,.string q.sm,.slice q.na q.needs.length q.nc,.slice q.ba q.bars.length q.bc,.slice q.ga q.gives.length q.gc,.slice (some ⟨g,0,none⟩) 1 c,.slice q.sa q.scripts.length q.sc] 27)).alloc (.cells #[.string ⟨#[]⟩,.string ⟨#[]⟩,.int .i64 0] 38)) (w4.heap.size+1) [.string ⟨#[]⟩,.string ⟨#[]⟩,.int .i64 0]):=by
  have h:=ax.new (w4.alloc (.cells #[.string q.nm,.string q.ver,.string q.ar,.string q.sm,.slice q.na q.needs.length q.nc,.slice q.ba q.bars.length q.bc,.slice q.ga q.gives.length q.gc,.slice (some ⟨g,0,none⟩) 1 c,.slice q.sa q.scripts.length q.sc] 27)) [.string ⟨#[]⟩,.string ⟨#[]⟩,.int .i64 0] 38;simp only[World.size_alloc] at h;exact h
 have R5:=ae (R4.out.below L5.out);have F5:=ae (F4.out.below L5.out);have P5:=ae (P4.out.step L5.out);generalize ((w4.alloc (.cells #[.string q.nm,.string q.ver,.string q.ar,.string q.sm,.slice q.na q.needs.length q.nc,.slice q.ba q.bars.length q.bc,.slice q.ga q.gives.length q.gc,.slice (some ⟨g,0,none⟩) 1 c,.slice q.sa q.scripts.length q.sc] 27)).alloc (.cells #[.string ⟨#[]⟩,.string ⟨#[]⟩,.int .i64 0] 38))=w5 at *;have r0:w5.cell? ⟨w1.heap.size,0,none⟩=some (.string ⟨#[97,97]⟩):=R5.out.cell 0 _ rfl;have r1:w5.cell? ⟨w1.heap.size,1,none⟩=some (.string ⟨#[97]⟩):=R5.out.cell 1 _ rfl;have r2:w5.cell? ⟨w1.heap.size,2,none⟩=some (.int .i64 1):=R5.out.cell 2 _ rfl;have s0:w5.cell? ⟨w4.heap.size+1,0,none⟩=some (.string ⟨#[]⟩):=S5.out.cell 0 _ rfl;have s1:w5.cell? ⟨w4.heap.size+1,1,none⟩=some (.string ⟨#[]⟩):=S5.out.cell 1 _ rfl;have s2:w5.cell? ⟨w4.heap.size+1,2,none⟩=some (.int .i64 0):=S5.out.cell 2 _ rfl;have k7:w5.cell? ⟨w4.heap.size,7,none⟩=some (.slice (some ⟨g,0,none⟩) 1 c):=K5.out.cell 7 _ rfl;have u6:w5.cell? ⟨g,6,none⟩=some (.string f.sum):=F5.out.cell 6 _ rfl;rw[hsum] at u6;clear hsum;go_wp2;go_ret;exact⟨rfl,P5.out.bel⟩
end
section
open Go.RowKit
theorem qz (kd:Nat)(m:LU):(dY kd m).length=4*fL kd:=by
 have h:∀ x:cD,(lf kd x.toNat 4).length=4:=fun x=>by unfold lf;split;exact mr _ _;exact qm _ _
 have h2:∀ l:List cD,(l.flatMap fun x=>lf kd x.toNat 4).length=4*l.length:=by
  intro l
  induction l with
  | nil=>rfl
  | cons a r ih=>rw[List.flatMap_cons,List.length_append,h,ih,List.length_cons];omega
 have h3:fL kd<=8:=by unfold fL;split;decide;split<;>decide
 unfold dY;rw[h2,List.length_take,gN,Nat.min_eq_left h3]
theorem Ie (k:Nat)(h:k<16):Lu.contains (As k)=true:=by
 have:(List.range 16).all (fun k=>Lu.contains (As k))=true:=by decide
 exact List.all_eq_true.1 this k (List.mem_range.2 h)
theorem N5 (l:LU):Bh (lh l)=true:=by
 unfold Bh lh;rw[List.all_eq_true];intro c hc;obtain⟨x,_,hx⟩:=List.mem_flatMap.1 hc;have:=x.toNat_lt;rcases List.mem_cons.1 hx with rfl | hx
 ·exact Ie _ (by omega)
 ·rw[List.mem_singleton.1 hx];exact Ie _ (by omega)
theorem PY (h:fmt=1\/fmt=2\/fmt=3)(bs:LU):Iy fmt (At fmt bs)=true:=by
 unfold Iy At;have hl:(⟨(lh (dY (DJ fmt) bs)).toArray⟩:BA).size=2*(4*fL (DJ fmt)):=by
  rw[<-qz (DJ fmt) bs,<-Db];rfl
 have hb:bl (⟨(lh (dY (DJ fmt) bs)).toArray⟩:BA)=lh (dY (DJ fmt) bs):=rfl;rw[hl,hb,N5,Bool.and_true];rcases h with rfl | rfl | rfl<;>decide
theorem PZ {l:List BA}(h:yL l s=true):s∈l:=by
 unfold yL at h;exact gM (dO h)
theorem yW {l:List ag}:∀ {conf:List BA}{p:Option BA},kA l p conf=true->∀ s∈conf,(lj l s).getD 0=1\/(lj l s).getD 0=4
 | [],_,_,s,hs=>by simp at hs
 | c::r,p,h,s,hs=>by
  unfold kA at h;rw[Bool.and_eq_true] at h;rcases List.mem_cons.1 hs with rfl | hs
  ·have:=h.1;unfold vP at this;rw[Bool.and_eq_true,Bool.or_eq_true,decide_eq_true_eq,decide_eq_true_eq] at this;exact this.2
  ·exact yW h.2 s hs
theorem If {l:List ag}(h:tD fmt conf l=true)(hn:(l.map ag.path).Nodup){x:ag}(hx:x∈l)(hc:yL conf x.path=true):fmt≠3/\(x.kind=1\/x.kind=4):=by
 unfold tD at h;have hm:=PZ hc;split at h
 ·have:conf=[]:=List.eq_nil_of_length_eq_zero (dO h);rw[this] at hm;simp at hm
 ·rename_i hf;refine⟨hf,?_⟩;have:=yW h _ hm;rw[wk hn hx] at this;simpa using this
theorem sk {x:ag}(h:fE x=false):0<=x.mode/\x.mode<=4095:=by
 unfold fE at h;simp only[Bool.or_eq_false_iff,decide_eq_false_iff_not] at h;omega
theorem Qa (hfm:fmt=1\/fmt=2\/fmt=3){l:List ag}(hf:dn l)(hone:∀ x∈l,li fmt x=0)(hcf:tD fmt conf l=true){x:ag}(hx:x∈l):cy fmt (cW fmt conf l x)=true:=by
 have g:=fO.1 (hf.err x hx);obtain⟨o1,o2⟩:=qv.1 (hone x hx);unfold cP at o2;simp only[Bool.and_eq_true,decide_eq_true_eq] at o2;obtain⟨p1,p2,p3,p4,p5,p6⟩:=o2;obtain⟨m1,m2⟩:=sk g.num;have hn:=fP hf.nd;have hk:=g.kind;have hem:(⟨#[]⟩:BA)=ByteArray.empty:=rfl;unfold cy cW;simp only[p1,p2,Bool.and_true];by_cases h14:x.kind=1\/x.kind=4
 ·have hg:=cQ.2 h14;have e1:(if x.kind=4 then 1 else x.kind)=1:=by rcases h14 with e | e<;>simp[e]
  have e3:¬ x.kind=3:=by omega
  rw[e1,if_neg e3,if_pos hg,PY hfm];have hcc:(!yL conf x.path||decide (fmt≠3))=true:=by
   cases hb:yL conf x.path with
   | false=>rfl
   | true=>simpa using(If hcf hn hx hb).1
  simp[m1,m2,hem];simpa using hcc
 ·have hg:iq x=false:=by
   cases e:iq x with
   | false=>rfl
   | true=>exact absurd (cQ.1 e) h14
  have e1:(if x.kind=4 then 1 else x.kind)=x.kind:=by rw[if_neg (fun e=>h14 (.inr e))]
  have hb:yL conf x.path=false:=by
   cases hb:yL conf x.path with
   | false=>rfl
   | true=>exact absurd (If hcf hn hx hb).2 h14
  have hne1:¬ x.kind=1:=fun e=>h14 (.inl e);rw[e1,hg,hb];by_cases h3:x.kind=3
  ·have ht:=g.targ h3;unfold jT at ht;simp only[Bool.and_eq_true,decide_eq_true_eq] at ht;rw[h3] at p6;simp only[decide_true,Bool.not_true,Bool.false_or,Bool.and_eq_true,decide_eq_true_eq] at p6;simp[h3,m1,m2,p6.1,p6.2,ht.1.2,hem]
  ·simp[h3,hne1,m1,m2,hem]
theorem sn:∀ (l:LU)(i:Nat),dD 47 l=some i->l[i]?=some 47
 | [],i,h=>by simp[dD] at h
 | x::r,i,h=>by
  unfold dD at h;cases hr:dD 47 r with
  | some j=>
   rw[hr] at h;injection h with h;subst h;simpa using sn r j hr
  | none=>
   rw[hr] at h;simp only at h;split at h
   ·rename_i e;injection h with h;subst h;simp[e]
   ·cases h
theorem N6 (h:(bl s)[k]?=some 47):∀ n,k<n->s.extract 0 k∈gR s n:=by
 intro n
 induction n with
 | zero=>intro hk;omega
 | succ n ih=>
  intro hk;unfold gR;by_cases e:k=n
  ·subst e;rw[if_pos h];exact List.mem_append_right _ (List.mem_singleton.2 rfl)
  ·have:=ih (by omega);split
   ·exact List.mem_append_left _ this
   ·exact this
theorem Qb (h:Bn s=true):oR s∈aV s:=by
 unfold Bn at h;unfold oR;unfold gA at h |-;split at h
 ·rename_i hp;rw[if_pos hp];cases hl:dD 47 (bl s) with
  | none=>rw[hl] at h;cases h
  | some i=>
   have h47:=sn _ i hl;have hlt:i<s.size:=by rw[<-ah];exact(gS h47).1
   have e:(⟨((((some i).map ((bl s).take ·)):Option (LU)).getD []).toArray⟩:BA)=s.extract 0 i:=by
    apply dC;rw[iD];show(bl s).take i=_;simp
   rw[e];exact N6 h47 _ hlt
 ·cases h
theorem sq {fmt:Int}:∀ (fs pre:List av),(∀ (k:Nat)(f:av),fs[k]?=some f->kZ fmt (pre++fs.take k) f=0)->eG fmt pre fs=none
 | [],pre,_=>rfl
 | f::r,pre,h=>by
  unfold eG;have h0:=h 0 f rfl;rw[List.take_zero,List.append_nil] at h0;rw[if_pos h0];refine sq r (pre++[f]) fun k g hg=>?_;have:=h (k+1) g (by simpa using hg);simpa using this
theorem DA (hfm:fmt=1\/fmt=2\/fmt=3){l:List ag}{p:List av}(hf:dn l)(hone:∀ x∈l,li fmt x=0)(hcf:tD fmt conf l=true)(hl:l.length<=512)
  (h1:p.Perm (bz fmt conf l))(h2:p.Pairwise (fun x y=>¬ bl y.path<bl x.path)):(gw fmt p).2=0:=by
 rw[kR hf] at h1;have hlen:p.length=l.length:=by rw[h1.length_eq,List.length_map]
 have hnd:(p.map av.path).Nodup:=by
  rw[(h1.map av.path).nodup_iff,List.map_map];exact fP hf.nd
 have hmem:∀ f∈p,∃ x∈l,f=cW fmt conf l x:=fun f h=>by
  obtain⟨x,hx,e⟩:=List.mem_map.1 (h1.mem_iff.1 h);exact⟨x,hx,e.symm⟩
 unfold gw;rw[if_neg (by omega),sq]
 ·rfl
 intro k f hk;rw[List.nil_append];have hkm:=gM hk;obtain⟨x,hx,rfl⟩:=hmem f hkm;have g:=fO.1 (hf.err x hx);obtain⟨o1,_⟩:=qv.1 (hone x hx);have hkd:=g.kind;unfold kZ;rw[if_neg (by rw[kQ,g.path,o1];simp),if_neg,if_neg,if_neg (by rw[Qa hfm hf hone hcf hx];simp),if_neg]
 ·intro hb;unfold ky at hb;rw[Bool.and_eq_true,List.any_eq_true] at hb;obtain⟨hpb,g',hg',he⟩:=hb;rw[Bool.and_eq_true,decide_eq_true_eq,decide_eq_true_eq] at he;obtain⟨z,hz,rfl⟩:=hmem g' (List.mem_of_mem_take hg');have hin:=Qb hpb;rw[<-he.1,kQ,kQ] at hin;have h22:=hf.up x hx z hz hin;apply he.2;unfold cW;simp[h22]
 ·have:(cW fmt conf l x).kind=1\/(cW fmt conf l x).kind=2\/(cW fmt conf l x).kind=3:=by
   unfold cW;show(if x.kind=4 then 1 else x.kind)=1\/(if x.kind=4 then 1 else x.kind)=2\/(if x.kind=4 then 1 else x.kind)=3;split<;>omega
  exact fun h=>h this
 ·unfold jx;cases hg:(p.take k).getLast? with
  | none=>simp
  | some g'=>
   obtain⟨hk',hke⟩:=gS hk;rw[List.getLast?_eq_getElem?,List.length_take,Nat.min_eq_left (by omega),List.getElem?_take] at hg;split at hg
   ·rename_i hlt;obtain⟨hj,hje⟩:=gS hg;have ho:=h2;rw[List.pairwise_iff_getElem] at ho;have a:=ho (k-1) k hj hk' (by omega);rw[hje,hke] at a;have b:bl g'.path≠bl (cW fmt conf l x).path:=by
     intro e;have hn:=hnd;rw[List.Nodup,List.pairwise_iff_getElem] at hn;refine hn (k-1) k (by simpa using hj) (by simpa using hk') (by omega) ?_;simp only[List.getElem_map,hje,hke];exact dC e
    have c:bl g'.path<bl (cW fmt conf l x).path:=by
     by_cases d:bl g'.path<bl (cW fmt conf l x).path
     ·exact d
     ·exact absurd (List.le_antisymm (List.not_lt.1 a) (List.not_lt.1 d)) b
    simp[c]
   ·cases hg
theorem RB {fo no ao so ndo bo go:Bool}{ev se:Int}{fe fe':BA×Int}(h:(Om fo no ev ao so ndo bo go fe se).2=0)(h':fe'.2=0):(Om fo no ev ao so ndo bo go fe' se).2=0:=by
 unfold Om at h |-;split at h
 ·simp at h
 rename_i a;rw[if_neg a];clear a;split at h
 ·simp at h
 rename_i a;rw[if_neg a];clear a;split at h
 ·rename_i a;exact absurd h a
 rename_i a;rw[if_neg a];clear a;split at h
 ·simp at h
 rename_i a;rw[if_neg a];clear a;split at h
 ·simp at h
 rename_i a;rw[if_neg a];clear a;split at h
 ·simp at h
 rename_i a;rw[if_neg a];clear a;split at h
 ·simp at h
 rename_i a;rw[if_neg a];clear a;split at h
 ·simp at h
 rename_i a;rw[if_neg a];clear a;split at h
 ·rename_i a;exact absurd h a
 rename_i a;rw[if_neg (by simpa using h')];exact h
theorem GH {b:dH}{q:bK}{p:List av}(h:(mA fmt b).2=0)(hq:b.pk.alike q)(h1:p.Perm (bz fmt b.conf b.ents))(h2:p.Pairwise (fun x y=>¬ bl y.path<bl x.path)):
  (il fmt { q with fa:=A,fc:=c,files:=p }).2=0:=by
 obtain⟨h3,h4,h5,h6,h7,h8⟩:=nU h;have hfm:=(Aw h).1;have hca:(nF b.ents).2=(fX [] b.ents).2:=by unfold nF;rw[if_neg (by omega)]
 have hfair:=Au (hca ▸ h6);have hfa:=DA hfm hfair (mx.1 h7) h8 h5 h1 h2;rw[<-si hq] at h4;unfold il at h4 |-;exact RB h4 hfa
end
section
open Go.RowKit Go.Maps
theorem bK.alike.fitsK {p q:bK}(h:p.alike q)(f:p.fits):q.fits:=
 ⟨h.nm ▸ f.nm,h.ver ▸ f.ver,h.ar ▸ f.ar,h.sm ▸ f.sm,h.needs ▸ f.needs,h.bars ▸ f.bars,h.gives ▸ f.gives,h.files ▸ f.files,h.scripts ▸ f.scripts,h.needs ▸ f.needs_,h.bars ▸ f.bars_,h.gives ▸ f.gives_,h.files ▸ f.files_,h.scripts ▸ f.scripts_⟩
theorem bK.alike.smallK {p q:bK}(h:p.alike q)(f:p.small):q.small:=
 ⟨h.nm ▸ f.nm,h.ver ▸ f.ver,h.ar ▸ f.ar,h.sm ▸ f.sm,h.needs ▸ f.needs,h.bars ▸ f.bars,h.gives ▸ f.gives,h.files ▸ f.files,h.scripts ▸ f.scripts,h.needs ▸ f.needs_,h.bars ▸ f.bars_,h.gives ▸ f.gives_,h.files ▸ f.files_,h.scripts ▸ f.scripts_⟩
theorem bK.alike.fewK {p q:bK}(h:p.alike q)(f:p.few):q.few:=⟨h.needs ▸ f.needs,h.bars ▸ f.bars,h.gives ▸ f.gives,h.files ▸ f.files,h.scripts ▸ f.scripts⟩
theorem wt {p q:bK}(h:p.alike q):cv p q=true:=by
 refine qX (h.nm ▸ gq _) (h.ver ▸ gq _) (h.ar ▸ gq _) (h.sm ▸ gq _) (h.needs ▸ iT gq _) (h.bars ▸ iT gq _) ?_ ?_ ?_
 ·rw[h.gives];exact iT (fun x=>by simp[eE,gq]) _
 ·rw[h.files];exact iT (fun x=>by simp[eF,gq]) _
 ·rw[h.scripts];exact iT (fun x=>by simp[cu,gq]) _
theorem ag.small.fits {x:ag}(h:x.small):x.fits:=⟨by have:=h.path;omega,by have:=h.owner;omega,by have:=h.group;omega,by have:=h.link;omega,by have:=h.data;omega⟩
theorem dH.small.fitsK {b:dH}(h:b.small)(hp:b.pk.fits):b.fits:=
 ⟨hp,by have:=h.conf;omega,fun s hs=>by have:=h.conf_ s hs;omega,by have:=h.ents;omega,fun x hx=>(h.ents_ x hx).fits⟩
theorem KM {base:Nat}{e:TypeId}{size n:Nat}{xs:LV}(h:w.ownsRow base e size (.slice A n c) n xs):c<=9223372036854775807:=by
 rcases h.2 with⟨hv,rfl⟩ | ⟨g,cap,cur,hv,_,_,_,hc,_⟩
 ·injection hv with _ _ h3;omega
 ·injection hv with _ _ h3;unfold maxLen at hc;omega
theorem mC {l:List ag}(hs:∀ x∈l,x.small){i:Nat}{x:ag}(hx:x∈l):(db l i x).link.size<=1000000/\(db l i x).data.length<=1000000:=by
 unfold db;split
 ·split
  ·refine⟨by show(⟨#[]⟩:BA).size<=_;decide,?_⟩;show(fN l (cJ l x)).length<=_;unfold fN;cases h:l[cJ l x]? with
   | none=>simp
   | some y=>exact(hs y (gM h)).data
  ·refine⟨?_,by show([]:LU).length<=_;simp⟩;show(du l (bH l x)).size<=_;unfold du;cases h:l[bH l x]? with
   | none=>show(⟨#[]⟩:BA).size<=_;decide
   | some y=>exact(hs y (gM h)).path
 ·exact⟨(hs x hx).link,(hs x hx).data⟩
def SP (fmt:Int)(a:dH)(w:World)(e:Ending)(w':World):Prop:=
 Below w.heap.size w w'/\(((mA fmt a).2≠0/\e=.returned (.tuple #[Gs,tf fmt a])) \/
 ((mA fmt a).2=0/\∃ (c:dH)(m0:List ag),e=.returned (.tuple #[c.val,.agg #[.string ⟨#[]⟩,.string ⟨#[]⟩,.int .i64 0]])/\c.ok w'/\c.small/\c.fits/\(mA fmt c).2=0/\a.pk.alike c.pk/\c.conf=a.conf /\
   m0.length=a.ents.length/\(∀ (i:Nat)(x y:ag),a.ents[i]?=some x->m0[i]?=some y->(db a.ents i x).same y)/\c.ents.Perm m0/\c.ents.Pairwise (fun x y=>¬ bl y.path<bl x.path)))
theorem qA {a:dH}(h:(mA fmt a).2=0):dn a.ents:=by
 obtain⟨h1,h2,h3,h4,h5,h6⟩:=nU h;have hca:(nF a.ents).2=(fX [] a.ents).2:=by unfold nF;rw[if_neg (by omega)]
 exact Au (hca ▸ h4)
theorem KO (fmt:Int)(a:dH)(w:World)(hG:zL w)(ha:a.ok w)(hs:a.small)(hf:a.fits):Calls Tryz.prog 8 #[.int .i64 fmt,a.val] w (SP fmt a w):=by
 refine(Ax fmt a w hG ha hs).mono ?_;rintro e w' ⟨hbel,⟨hbad,rfl⟩ | ⟨hok,q,Ac,A,cc,c,m0,m,rfl,hal,hq,hcf,hl,hsm,hp,ho,hrow,hown⟩⟩
 ·exact⟨hbel,.inl ⟨hbad,rfl⟩⟩
 have hml:m.length=a.ents.length:=hp.length_eq.trans hl;have hfair:=qA hok;have hcan:=Az hfair hl hsm hp ho;have ev:NA q Ac a.conf.length cc A a.ents.length c=(⟨q,Ac,cc,a.conf,A,c,m⟩:dH).val:=by
  unfold NA dH.val;rw[hml]
 have hsmall:(⟨q,Ac,cc,a.conf,A,c,m⟩:dH).small:=by
  refine⟨hal.smallK hs.pk,hal.fewK hs.few,hs.conf,hs.conf_,by show m.length<=_;rw[hml];exact hs.ents,fun y hy=>?_⟩;obtain⟨i,x,hx,hxy⟩:=hcan.back y hy;have hxm:=gM hx;have sx:=hs.ents_ x hxm;obtain⟨k1,k2⟩:=mC hs.ents_ (i:=i) hxm;obtain⟨s1,s2,s3,s4,s5,s6⟩:=nx a.ents i x;refine⟨?_,?_,?_,?_,?_,ri (hown y hy),KM (hown y hy)⟩
  ·rw[<-hxy.path,dB];exact sx.path
  ·rw[<-hxy.owner,s4];exact sx.owner
  ·rw[<-hxy.group,s5];exact sx.group
  ·rw[<-hxy.link];exact k1
  ·rw[<-hxy.data];exact k2
 refine⟨hbel,.inr ⟨hok,⟨q,Ac,cc,a.conf,A,c,m⟩,m0,by rw[ev],⟨hq.ok,bD hcf,?_,fun y hy=>bD (hown y hy)⟩,hsmall,hsmall.fitsK (hal.fitsK hf.pk),?_,hal,rfl,hl,hsm,hp,ho⟩⟩
 ·show Rd w' 10 A m.length _;rw[hml];exact bD hrow
 ·exact PN hok hal rfl hml hcan
def SQ (fmt:Int)(b:dH)(w:World)(e:Ending)(w':World):Prop:=
 Below w.heap.size w w'/\((mA fmt b).2=0->∃ (q:bK) (A:OA) (c:Nat) (l:List av),e=.returned (.tuple #[({ q with fa:=A,fc:=c,files:=l }:bK).val,.agg #[.string ⟨#[]⟩,.string ⟨#[]⟩,.int .i64 0]])/\b.pk.alike q /\
  ({ q with fa:=A,fc:=c,files:=l }:bK).ok w'/\({ q with fa:=A,fc:=c,files:=l }:bK).small/\({ q with fa:=A,fc:=c,files:=l }:bK).fits/\(il fmt { q with fa:=A,fc:=c,files:=l }).2=0 /\
  l.Perm (bz fmt b.conf b.ents)/\l.Pairwise (fun x y=>¬ bl y.path<bl x.path))
theorem DC {n:Int}(h:0<=n)(h':n<=5000):(Lit.int .i64 n).wf=true:=by
 show(decide (IntKind.i64.min<=n)&&decide (n<=IntKind.i64.max))=true;rw[dT (Int.le_trans (show IntKind.i64.min<=0 by decide) h),dT (Int.le_trans h' (show(5000:Int)<=IntKind.i64.max by decide))];rfl
theorem GI (fmt:Int)(bs:LU):(At fmt bs).size<=1000:=by
 have:(At fmt bs).size=2*(4*fL (DJ fmt)):=by
  unfold At;rw[<-qz (DJ fmt) bs,<-Db];rfl
 rw[this];unfold fL;split<;>(try split)<;>omega
theorem sr (fmt:Int)(b:dH)(w:World)(hG:zL w)(hT:td w)(hb:b.ok w)(hs:b.small)(hf:b.fits):Calls Tryz.prog 7 #[.int .i64 fmt,b.val] w (SQ fmt b w):=by
 refine(nu fmt b w hG hT hb hs).mono ?_;rintro e w' ⟨hbel,⟨hbad,rfl⟩ | ⟨hok,q,A,c,hi,l,rfl,hal,hperm,hpw,hq,hhi,how⟩⟩
 ·exact⟨hbel,fun h=>absurd h hbad⟩
 have hfair:=qA hok;have hperm':=hperm;rw[kR hfair] at hperm';have hfl:∀ f∈l,∃ x∈b.ents,f=cW fmt b.conf b.ents x:=fun f hf=>by
  obtain⟨x,hx,e⟩:=List.mem_map.1 (hperm'.mem_iff.1 hf);exact⟨x,hx,e.symm⟩
 have hll:l.length=b.ents.length:=by rw[hperm'.length_eq,List.length_map]
 have hsm:=hal.smallK hs.pk;have hft:=hal.fitsK hf.pk;have hsz:∀ f∈l,f.path.size<=1000000/\f.owner.size<=1000000/\f.group.size<=1000000/\f.link.size<=1000000/\f.sum.size<=1000000/\(1<=f.kind/\f.kind<=4)/\(0<=f.mode/\f.mode<=4095):=by
  intro f hf;obtain⟨x,hx,rfl⟩:=hfl f hf;have sx:=hs.ents_ x hx;have gx:=fO.1 (hfair.err x hx);have gk:=gx.kind;refine⟨sx.path,sx.owner,sx.group,?_,?_,?_,sk gx.num⟩
  ·show(if x.kind=3 then x.link else ⟨#[]⟩:BA).size<=_;split
   ·exact sx.link
   ·decide
  ·show(if iq x=true then At fmt (fN b.ents (cJ b.ents x)) else ⟨#[]⟩:BA).size<=_;split
   ·have:=GI fmt (fN b.ents (cJ b.ents x));omega
   ·decide
  ·show 1<=(if x.kind=4 then 1 else x.kind)/\(if x.kind=4 then 1 else x.kind)<=4;split<;>omega
 refine⟨hbel,fun _=>⟨q,A,c,l,rfl,hal,⟨bD hq.nd,bD hq.br,bD hq.gv,bD how,bD hq.sp⟩,?_,?_,GH hok hal hperm hpw,hperm,hpw⟩⟩
 ·refine⟨hsm.nm,hsm.ver,hsm.ar,hsm.sm,hsm.needs,hsm.bars,hsm.gives,?_,hsm.scripts,hsm.needs_,hsm.bars_,hsm.gives_,fun f hf=>?_,hsm.scripts_⟩
  ·show l.length<=_;rw[hll];have:=hs.ents;omega
  ·obtain⟨a1,a2,a3,a4,a5,_⟩:=hsz f hf;exact⟨by omega,by omega,by omega,by omega,by omega⟩
 ·refine⟨hft.nm,hft.ver,hft.ar,hft.sm,hft.needs,hft.bars,hft.gives,?_,hft.scripts,hft.needs_,hft.bars_,hft.gives_,fun f hf=>?_,hft.scripts_⟩
  ·show l.length<=_;rw[hll];have:=hs.ents;omega
  ·obtain⟨a1,a2,a3,a4,a5,⟨a6,a7⟩,⟨a8,a9⟩⟩:=hsz f hf;refine⟨by omega,by omega,by omega,by omega,by omega,?_,?_⟩
   ·exact DC (by omega) (by omega)
   ·exact DC a8 (by omega)
theorem KQ {a c:dH}{m0:List ag}{q q':bK}{A':OA}{k':Nat}{l l':List av}(h:(mA fmt a).2=0)(hac:a.pk.alike c.pk)(hc:c.conf=a.conf)(hl:m0.length=a.ents.length)(hsm:∀ (i:Nat)(x y:ag),a.ents[i]?=some x->m0[i]?=some y->(db a.ents i x).same y)(hp:c.ents.Perm m0)(ho:c.ents.Pairwise (fun x y=>¬ bl y.path<bl x.path))
  (h1:a.pk.alike q)(h2:c.pk.alike q')(p1:l.Perm (bz fmt a.conf a.ents))(o1:l.Pairwise (fun x y=>¬ bl y.path<bl x.path))(p2:l'.Perm (bz fmt c.conf c.ents))(o2:l'.Pairwise (fun x y=>¬ bl y.path<bl x.path)):
  cv { q with fa:=A,fc:=k,files:=l } { q' with fa:=A',fc:=k',files:=l' }=true:=by
 rw[hc] at p2;have e:l=l':=KI (qA h) hl hsm hp ho p1 o1 p2 o2;refine wt ⟨?_,?_,?_,?_,?_,?_,?_,e,?_⟩
 ·exact h1.nm.symm.trans (hac.nm.trans h2.nm)
 ·exact h1.ver.symm.trans (hac.ver.trans h2.ver)
 ·exact h1.ar.symm.trans (hac.ar.trans h2.ar)
 ·exact h1.sm.symm.trans (hac.sm.trans h2.sm)
 ·exact h1.needs.symm.trans (hac.needs.trans h2.needs)
 ·exact h1.bars.symm.trans (hac.bars.trans h2.bars)
 ·exact h1.gives.symm.trans (hac.gives.trans h2.gives)
 ·exact h1.scripts.symm.trans (hac.scripts.trans h2.scripts)
theorem N7 {x y:ag}(h:x.same y):nA x y=true:=by
 have:gh x y=true:=kC.2 ⟨h.mode,h.uid,h.gid,h.owner,h.group,h.mtime⟩;unfold nA;rw[this,h.path,h.kind,h.link,h.data];simp
theorem RD {l m q:List ag}(h:dn l)(c:rz l m)(d:rz l q):iA nA m q=true:=by
 obtain⟨h1,h2⟩:=PX h c d;exact eD nA m q h1 fun i x y hx hy=>N7 (h2 i x y hx hy)
end
end Go.Proofs.YtlglfpbhapmhiaaGreatDoor
