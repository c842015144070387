/- A part of the proof. -/
import Derived.Test.YtlglfpbhapmhiaaGreatDoorK37
import Derived.Test.YtlglfpbhapmhiaaGreatDoorK41
set_option maxRecDepth 100000
set_option maxHeartbeats 20000000
set_option linter.unusedVariables false
set_option linter.unusedSimpArgs false
namespace Go.Proofs.YtlglfpbhapmhiaaGreatDoor
section
open Go.RowKit Go.Maps
theorem gE (s:BA)(w:World):Calls Tryz.prog 100 #[.string s] w fun e w'=>e=.returned (.bool false)∧w=w':=by
 have q:(s.toList != s.toList)=false:=by simp
 go_enter Tryz.func100,Tryz.ntmps100
 go_wp2_with fail
 go_ret
 exact⟨af (by simp),rfl⟩
theorem Iw (s:BA)(w:World):Calls Tryz.prog 57 #[.string s] w fun e w'=>e=.returned (.bool false)∧w=w':=by
 have q:(s.toList != s.toList)=false:=by simp
 go_enter Tryz.func57,Tryz.ntmps57
 go_wp2_with fail
 go_ret
 exact⟨af (by simp),rfl⟩
theorem Ix (s t:BA)(w:World):Calls Tryz.prog 56 #[.string s,.string t] w fun e w'=>e=.returned (.bool (decide (bl s<bl t)))∧w=w':=by
 go_enter Tryz.func56,Tryz.ntmps56
 go_wp2_with fail
 refine(gE s _).mono ?_;rintro e w' ⟨rfl,rfl⟩
 go_wp2_with fail
 go_ret
 exact⟨af (by rw[dj,ai,ai]),rfl⟩
def LX (l:List BA)(s:BA)(e:Ending):Prop:=∃ n:Int,e=.returned (.tuple #[.int .i64 n,.bool (FV l s)])
theorem Kd {l:List BA}{s:BA}:∀ {f i j:Nat},¬ i<j→zF l s f i j=i
 | 0,i,j,_=>rfl
 | f+1,i,j,h=>by rw[zF,if_neg h]
theorem BH (A:OA)(c:Nat)(l:List BA)(s:BA)(w:World)(hr:Rd w 1 A l.length (az l))(hl:l.length≤100000):
  Calls Tryz.prog 23 #[.slice A l.length c,.string s] w fun e w'=>LX l s e∧w=w':=by
 have HR:=ae hr;clear hr
 go_enter Tryz.func23,Tryz.ntmps23
 go_wp2_with fail
 go_loop [7,8] (fun i j=>∃ (a b f:Nat),a≤b∧b≤l.length∧b-a≤f∧i=.int .i64 a∧j=.int .i64 b∧Hid (zF l s f a b=zF l s l.length 0 l.length)) (fun i j=>(intOf j).toNat-(intOf i).toNat)
 case atStart=>exact⟨0,l.length,l.length,z0,lr,by omega,rfl,rfl,rfl⟩
 case round=>
  obtain⟨a,b,f,hab,hbl,hf,rfl,rfl,HP⟩:=hrel
  by_cases hlt:a<b
  ·obtain⟨g,rfl⟩:∃ g,f=g+1:=⟨f-1,by omega⟩
   obtain⟨h,hh⟩:∃ h,(a+b) / 2=h:=⟨_,rfl⟩
   have h1:a≤h:=by omega
   have h2:h<b:=by omega
   obtain⟨x,hx⟩:∃ x,l[h]?=some x:=⟨_,gG (by omega)⟩
   obtain⟨bp,op,hAp,hep⟩:=HR.out.str h x hx
   have hixp:=fun W=>aH (T:=22) (E:=9) (sz:=1) (c:=c) Tryz.underlying22 rfl Tryz.sizeOf9 hAp (show h<l.length by omega) W
   simp only[Nat.mul_one] at hixp
   have hgd:l.getD h ⟨#[]⟩=x:=by rw[List.getD_eq_getElem?_getD,hx];rfl
   have PP:Hid (zF l s (g+1) a b=if bl x<bl s then zF l s g (h+1) b else zF l s g a h):=by show _=_;rw[zF,if_pos hlt,hh,hgd]
   have hq:((a:Int)+(b:Int)) / 2=(h:Int):=by omega
   clear hx hAp hgd hh
   go_wp2_with fail
   refine(Ix x s _).mono ?_;rintro e w' ⟨rfl,rfl⟩
   obtain⟨o,ho⟩:∃ o,decide (bl x<bl s)=o:=⟨_,rfl⟩
   rw[ho]
   cases o
   ·have R:Hid (zF l s g a h=zF l s l.length 0 l.length):=by show _=_;rw[←HP.out,PP.out,if_neg (of_decide_eq_false ho)]
    clear ho
    go_wp2_with fail
    go_round
    case rel=>exact⟨a,h,g,by omega,by omega,by omega,rfl,rfl,R⟩
    case measure=>simp[intOf];omega
   ·have R:Hid (zF l s g (h+1) b=zF l s l.length 0 l.length):=by show _=_;rw[←HP.out,PP.out,if_pos (dO ho)]
    clear ho
    go_wp2_with fail
    go_round
    case rel=>exact⟨h+1,b,g,by omega,by omega,by omega,by go_num,rfl,R⟩
    case measure=>simp[intOf];omega
  ·have E:Hid (zF l s l.length 0 l.length=a):=by show _=_;rw[←HP.out];exact Kd hlt
   by_cases ha:a<l.length
   ·obtain⟨x,hx⟩:∃ x,l[a]?=some x:=⟨_,gG ha⟩
    obtain⟨bp,op,hAp,hep⟩:=HR.out.str a x hx
    have hixp:=fun W=>aH (T:=22) (E:=9) (sz:=1) (c:=c) Tryz.underlying22 rfl Tryz.sizeOf9 hAp ha W
    simp only[Nat.mul_one] at hixp
    have HX:=ae hx
    have hai:(a:Int)<(l.length:Int):=by omega
    clear hx hAp
    by_cases hxs:x=s
    ·have q:(x.toList==s.toList)=true:=by rw[hxs];simp
     have R:Hid (FV l s=true):=by show _=_;unfold FV;rw[E.out,HX.out,hxs];simp
     clear hxs
     go_wp2_with fail
     go_ret2
     exact⟨⟨a,by rw[R.out];rfl⟩,rfl⟩
    ·have q:(x.toList==s.toList)=false:=by rw[fi];exact dF hxs
     have R:Hid (FV l s=false):=by show _=_;unfold FV;rw[E.out,HX.out];simp[hxs]
     clear hxs
     go_wp2_with fail
     refine(Iw x _).mono ?_;rintro e w' ⟨rfl,rfl⟩
     go_wp2_with fail
     go_ret2
     exact⟨⟨a,by rw[R.out];rfl⟩,rfl⟩
   ·have R:Hid (FV l s=false):=by show _=_;unfold FV;rw[E.out,List.getElem?_eq_none (by omega)];rfl
    have hai:¬ (a:Int)<(l.length:Int):=by omega
    go_wp2_with fail
    go_ret2
    exact⟨⟨a,by rw[R.out];rfl⟩,rfl⟩
def Iy (p:bN)(w:World)(e:Ending)(w':World):Prop:=∃ q:bN,e=.returned q.val∧p.alike q∧fP q w' (w.heap.size+1+1)∧Below w.heap.size w w'
def aW:LV:=[.string ⟨#[]⟩,.string ⟨#[]⟩,.string ⟨#[]⟩,.string ⟨#[]⟩,.slice none 0 0,.slice none 0 0,.slice none 0 0,.slice none 0 0,.slice none 0 0]
theorem lx (p:bN)(w:World)(hp:p.ok w)(hf:p.few):Calls Tryz.prog 19 #[p.val] w (Iy p w):=by
 have HP:=ae hp
 have HF:=ae hf
 clear hp hf
 obtain⟨W0,hW0⟩:∃ W0,(w.alloc (.cells #[.string p.nm,.string p.ver,.string p.ar,.string p.sm,.slice p.na p.needs.length p.nc,.slice p.ba p.bars.length p.bc,.slice p.ga p.gives.length p.gc,.slice p.fa p.files.length p.fc,.slice p.sa p.scripts.length p.sc] 27)).alloc (.cells #[.string ⟨#[]⟩,.string ⟨#[]⟩,.string ⟨#[]⟩,.string ⟨#[]⟩,.slice none 0 0,.slice none 0 0,.slice none 0 0,.slice none 0 0,.slice none 0 0] 27)=W0:=⟨_,rfl⟩
 have hz0:W0.heap.size=w.heap.size+1+1:=by rw[←hW0];simp
 have L0:Hid (Below w.heap.size w W0):=by show Below _ _ _;rw[←hW0];exact(bR.alloc lr _).alloc (by simp) _
 have B0:Hid (av W0 w.heap.size p.cells):=by show av _ _ _;rw[←hW0];exact(av.new w p.cells _).alloc _
 have Z0:Hid (av W0 (w.heap.size+1) aW):=by
  have h:=av.new (w.alloc (.cells #[.string p.nm,.string p.ver,.string p.ar,.string p.sm,.slice p.na p.needs.length p.nc,.slice p.ba p.bars.length p.bc,.slice p.ga p.gives.length p.gc,.slice p.fa p.files.length p.fc,.slice p.sa p.scripts.length p.sc] 27)) aW 27
  simp only[World.size_alloc] at h
  show av _ _ _;rw[←hW0];exact h
 have c0:=B0.out.cell 0 _ rfl
 have c1:=B0.out.cell 1 _ rfl
 have c2:=B0.out.cell 2 _ rfl
 have c3:=B0.out.cell 3 _ rfl
 have c4:=B0.out.cell 4 _ rfl
 have c5:=B0.out.cell 5 _ rfl
 have c6:=B0.out.cell 6 _ rfl
 have c7:=B0.out.cell 7 _ rfl
 have c8:=B0.out.cell 8 _ rfl
 have HZ0:=ae hz0
 clear hz0
 unfold bN.val
 go_enter Tryz.func19,Tryz.ntmps19
 go_wp2_with fail
 clear hW0 c0 c1 c2 c3 c4 c5 c6 c7 c8
 have HB1:Hid (av (W0.alloc (.cells p.cells.toArray 27)) W0.heap.size p.cells):=av.new W0 p.cells _
 have L1:Hid (Below W0.heap.size W0 (W0.alloc (.cells p.cells.toArray 27))):=bR.alloc lr _
 have DB:Mp (W0.alloc (.cells p.cells.toArray 27)) (some ⟨W0.heap.size,0,none⟩) [p]:=by
  refine⟨⟨by simp[iF],fun _=>⟨_,0,rfl,fun j u hu=>?_⟩⟩,fun x hx=>?_⟩
  ·rw[Nat.zero_add];exact HB1.out.cell j u (by simpa using hu)
  ·rw[List.mem_singleton.1 hx];exact HP.out.below (ap L0.out L1.out)
 have CP:Calls Tryz.prog 52 #[.slice (some ⟨W0.heap.size,0,none⟩) 1 1] (W0.alloc (.cells p.cells.toArray 27)) (xF [p] (W0.alloc (.cells p.cells.toArray 27))):=
  zQ (some ⟨W0.heap.size,0,none⟩) 1 [p] _ DB (by simp) (fun x hx=>by rw[List.mem_singleton.1 hx];exact HF.out)
 refine CP.mono ?_
 rintro e w2 ⟨A,c,g0,l',rfl,hl,ha,ho,hb⟩
 obtain⟨q,rfl⟩:=List.length_eq_one_iff.1 hl
 have AL:Hid (p.alike q):=ha 0 p q rfl rfl
 have L2:Hid (Below W0.heap.size W0 w2):=ap L1.out hb
 have Z2:=ae (Z0.out.below L2.out)
 have RW:=ae ho.row
 have PO0:=ae (ho.all q (List.mem_singleton.2 rfl))
 obtain⟨g,hA,hg1,hg2,hex,hfr⟩:=fE ho.row (show 0<1 by omega)
 subst hA
 have hlow:W0.heap.size+1≤g:=by simpa using hg1
 have HG0:g0=g:=by have:=ho.blk (by simp);simp[Value.ownBlock] at this;exact this.symm
 have PO:Hid (fP q w2 (w.heap.size+1+1)):=PO0.out.base (by have:=HZ0.out;omega)
 have cells:∀ (j:Nat)(u:Value),q.cells[j]?=some u→w2.cell? ⟨g,j,none⟩=some u:=fun j u hu=>by
  have hj:j<9:=by rw[←iF q];exact(gS hu).1
  rw[RW.out.cellAt j (by simpa using hj)];simpa using hu
 have e0:=cells 0 _ rfl
 have e1:=cells 1 _ rfl
 have e2:=cells 2 _ rfl
 have e3:=cells 3 _ rfl
 have e4:=cells 4 _ rfl
 have e5:=cells 5 _ rfl
 have e6:=cells 6 _ rfl
 have e7:=cells 7 _ rfl
 have e8:=cells 8 _ rfl
 have z0:=Z2.out.cell 0 _ rfl
 have z1:=Z2.out.cell 1 _ rfl
 have z2:=Z2.out.cell 2 _ rfl
 have z3:=Z2.out.cell 3 _ rfl
 have z4:=Z2.out.cell 4 _ rfl
 have z5:=Z2.out.cell 5 _ rfl
 have z6:=Z2.out.cell 6 _ rfl
 have z7:=Z2.out.cell 7 _ rfl
 have z8:=Z2.out.cell 8 _ rfl
 have fz:=fun j hj=>Z2.out.free j hj
 have f0:=fz 0 (by decide)
 have f1:=fz 1 (by decide)
 have f2:=fz 2 (by decide)
 have f3:=fz 3 (by decide)
 have f4:=fz 4 (by decide)
 have f5:=fz 5 (by decide)
 have f6:=fz 6 (by decide)
 have f7:=fz 7 (by decide)
 have f8:=fz 8 (by decide)
 have hix:=fun W=>aH (T:=71) (E:=27) (sz:=9) (c:=c) (A:=some ⟨g,0,none⟩) (off:=0) (b:=g) (n:=1) (k:=0) Tryz.underlying71 rfl Tryz.sizeOf27 rfl (by omega) W
 simp only[Nat.zero_mul,Nat.zero_add] at hix
 clear ha ho hb hl cells fz hex hfr hg1
 go_wp2_with fail
 have L3:Hid (Below w.heap.size w w2):=ap L0.out L2.out
 have ZF:av (((((((((w2.setCell ⟨w.heap.size+1,0,none⟩ (.string q.nm)).setCell ⟨w.heap.size+1,1,none⟩ (.string q.ver)).setCell ⟨w.heap.size+1,2,none⟩ (.string q.ar)).setCell ⟨w.heap.size+1,3,none⟩ (.string q.sm)).setCell ⟨w.heap.size+1,4,none⟩ (.slice q.na q.needs.length q.nc)).setCell ⟨w.heap.size+1,5,none⟩ (.slice q.ba q.bars.length q.bc)).setCell ⟨w.heap.size+1,6,none⟩ (.slice q.ga q.gives.length q.gc)).setCell ⟨w.heap.size+1,7,none⟩ (.slice q.fa q.files.length q.fc)).setCell ⟨w.heap.size+1,8,none⟩ (.slice q.sa q.scripts.length q.sc)) (w.heap.size+1) q.cells:=(((((((((Z2.out.set 0 (by simp[aW]) (.string q.nm)).set 1 (by simp[aW]) (.string q.ver)).set 2 (by simp[aW]) (.string q.ar)).set 3 (by simp[aW]) (.string q.sm)).set 4 (by simp[aW]) (.slice q.na q.needs.length q.nc)).set 5 (by simp[aW]) (.slice q.ba q.bars.length q.bc)).set 6 (by simp[aW]) (.slice q.ga q.gives.length q.gc)).set 7 (by simp[aW]) (.slice q.fa q.files.length q.fc)).set 8 (by simp[aW]) (.slice q.sa q.scripts.length q.sc))
 have LF:Below w.heap.size w (((((((((w2.setCell ⟨w.heap.size+1,0,none⟩ (.string q.nm)).setCell ⟨w.heap.size+1,1,none⟩ (.string q.ver)).setCell ⟨w.heap.size+1,2,none⟩ (.string q.ar)).setCell ⟨w.heap.size+1,3,none⟩ (.string q.sm)).setCell ⟨w.heap.size+1,4,none⟩ (.slice q.na q.needs.length q.nc)).setCell ⟨w.heap.size+1,5,none⟩ (.slice q.ba q.bars.length q.bc)).setCell ⟨w.heap.size+1,6,none⟩ (.slice q.ga q.gives.length q.gc)).setCell ⟨w.heap.size+1,7,none⟩ (.slice q.fa q.files.length q.fc)).setCell ⟨w.heap.size+1,8,none⟩ (.slice q.sa q.scripts.length q.sc)):=(ag (ag (ag (ag (ag (ag (ag (ag (ag L3.out (by omega) _) (by omega) _) (by omega) _) (by omega) _) (by omega) _) (by omega) _) (by omega) _) (by omega) _) (by omega) _)
 have PF:fP q (((((((((w2.setCell ⟨w.heap.size+1,0,none⟩ (.string q.nm)).setCell ⟨w.heap.size+1,1,none⟩ (.string q.ver)).setCell ⟨w.heap.size+1,2,none⟩ (.string q.ar)).setCell ⟨w.heap.size+1,3,none⟩ (.string q.sm)).setCell ⟨w.heap.size+1,4,none⟩ (.slice q.na q.needs.length q.nc)).setCell ⟨w.heap.size+1,5,none⟩ (.slice q.ba q.bars.length q.bc)).setCell ⟨w.heap.size+1,6,none⟩ (.slice q.ga q.gives.length q.gc)).setCell ⟨w.heap.size+1,7,none⟩ (.slice q.fa q.files.length q.fc)).setCell ⟨w.heap.size+1,8,none⟩ (.slice q.sa q.scripts.length q.sc)) (w.heap.size+1+1):=PO.out.kept (Nat.lt_succ_self _) (an (an (an (an (an (an (an (an (an (World.grownBy.refl w2 (some (w.heap.size+1))) (p:=⟨w.heap.size+1,0,none⟩) (.inl rfl) (.string q.nm)) (p:=⟨w.heap.size+1,1,none⟩) (.inl rfl) (.string q.ver)) (p:=⟨w.heap.size+1,2,none⟩) (.inl rfl) (.string q.ar)) (p:=⟨w.heap.size+1,3,none⟩) (.inl rfl) (.string q.sm)) (p:=⟨w.heap.size+1,4,none⟩) (.inl rfl) (.slice q.na q.needs.length q.nc)) (p:=⟨w.heap.size+1,5,none⟩) (.inl rfl) (.slice q.ba q.bars.length q.bc)) (p:=⟨w.heap.size+1,6,none⟩) (.inl rfl) (.slice q.ga q.gives.length q.gc)) (p:=⟨w.heap.size+1,7,none⟩) (.inl rfl) (.slice q.fa q.files.length q.fc)) (p:=⟨w.heap.size+1,8,none⟩) (.inl rfl) (.slice q.sa q.scripts.length q.sc))
 generalize (((((((((w2.setCell ⟨w.heap.size+1,0,none⟩ (.string q.nm)).setCell ⟨w.heap.size+1,1,none⟩ (.string q.ver)).setCell ⟨w.heap.size+1,2,none⟩ (.string q.ar)).setCell ⟨w.heap.size+1,3,none⟩ (.string q.sm)).setCell ⟨w.heap.size+1,4,none⟩ (.slice q.na q.needs.length q.nc)).setCell ⟨w.heap.size+1,5,none⟩ (.slice q.ba q.bars.length q.bc)).setCell ⟨w.heap.size+1,6,none⟩ (.slice q.ga q.gives.length q.gc)).setCell ⟨w.heap.size+1,7,none⟩ (.slice q.fa q.files.length q.fc)).setCell ⟨w.heap.size+1,8,none⟩ (.slice q.sa q.scripts.length q.sc))=WF at *
 have v0:=ZF.cell 0 _ rfl
 have v1:=ZF.cell 1 _ rfl
 have v2:=ZF.cell 2 _ rfl
 have v3:=ZF.cell 3 _ rfl
 have v4:=ZF.cell 4 _ rfl
 have v5:=ZF.cell 5 _ rfl
 have v6:=ZF.cell 6 _ rfl
 have v7:=ZF.cell 7 _ rfl
 have v8:=ZF.cell 8 _ rfl
 refine bodyPost_ret (v:=q.val) (by simp(maxDischargeDepth:=12) [results,Tryz.results19,go_sem,bN.val,v0,v1,v2,v3,v4,v5,v6,v7,v8]) rfl ⟨q,rfl,AL.out,PF,LF⟩
theorem av.grownO {wr w':World}{c:Nat}{vs:LV}{row:Option Nat}(h:av wr c vs)(hg:wr.grownBy w' row)(hne:row≠some c):av w' c vs:=by
 have hb:w'.heap[c]?=wr.heap[c]?:=hg.block c h.sz (fun e=>hne e.symm)
 exact⟨Nat.lt_of_lt_of_le h.sz hg.size,fun j u hu=>(World.cell?_of_block hb).trans (h.cell j u hu),fun j hj=>by
  have:=h.free j hj
  rw[World.frozen?_of_block (a:=⟨c,j,none⟩) hb];exact this⟩
theorem fF {w:World}{B B':Nat}{e e':TypeId}{s s' n n':Nat}{v v':Value}{xs xs':LV}(h:w.ownsRow B e s v n xs)(h':w.ownsRow B' e' s' v' n' xs')(hne:e≠e'):v.ownBlock=none∨v.ownBlock≠v'.ownBlock:=by
 cases hg:v.ownBlock with
 | none=>exact .inl rfl
 | some g=>
  refine .inr fun hg'=>?_
  rcases h.2 with⟨rfl,_⟩ | ⟨g1,cap,cur,rfl,_,h1,_⟩
  ·cases hg
  ·rcases h'.2 with⟨rfl,_⟩ | ⟨g2,cap',cur',rfl,_,h2,_⟩
   ·cases hg'
   ·injection hg with hg;injection hg' with hg'
    have e1:g1=g:=hg
    have e2:g=g2:=hg'
    rw[e1] at h1;rw[←e2,h1] at h2
    injection h2 with h2
    injection h2 with _ h3 _
    exact hne h3
structure Q4 (q:bN) (w:World) (lo hi:Nat):Prop where
 nd:w.ownsRow lo 9 1 (.slice q.na q.needs.length q.nc) q.needs.length (az q.needs)
 br:w.ownsRow lo 9 1 (.slice q.ba q.bars.length q.bc) q.bars.length (az q.bars)
 gv:w.ownsRow lo 81 3 (.slice q.ga q.gives.length q.gc) q.gives.length (q.gives.flatMap cM.cells)
 sp:w.ownsRow lo 44 2 (.slice q.sa q.scripts.length q.sc) q.scripts.length (q.scripts.flatMap aT.cells)
 nl:∀ g,(Value.slice q.na q.needs.length q.nc).ownBlock=some g→g<hi
 bl:∀ g,(Value.slice q.ba q.bars.length q.bc).ownBlock=some g→g<hi
 gl:∀ g,(Value.slice q.ga q.gives.length q.gc).ownBlock=some g→g<hi
 sl:∀ g,(Value.slice q.sa q.scripts.length q.sc).ownBlock=some g→g<hi
theorem Q4.of {q:bN}{w:World}{lo:Nat}(h:fP q w lo):Q4 q w lo w.heap.size:=
 ⟨h.needs,h.bars,h.gives,h.scripts,fun g hg=>(h.needs.lt g hg).2,fun g hg=>(h.bars.lt g hg).2,fun g hg=>(h.gives.lt g hg).2,fun g hg=>(h.scripts.lt g hg).2⟩
theorem Q4.below {q:bN}{w w':World}{lo hi:Nat}(h:Q4 q w lo hi)(hb:Below w.heap.size w w'):Q4 q w' lo hi:=⟨aD h.1 hb,aD h.2 hb,aD h.3 hb,aD h.4 hb,h.5,h.6,h.7,h.8⟩
theorem Q4.kept {q:bN}{w w':World}{lo hi c:Nat}(h:Q4 q w lo hi)(hg:w.grownBy w' (some c))(hc:hi≤c):Q4 q w' lo hi:=by
 have k:∀ {v:Value},(∀ g,v.ownBlock=some g→g<hi)→v.ownBlock=none∨v.ownBlock≠some c:=fun {v} hv=>by
  cases hb:v.ownBlock with
  | none=>exact .inl rfl
  | some g=>right;intro e;injection e with e;have:=hv g hb;omega
 exact⟨h.1.kept hg (k h.5),h.2.kept hg (k h.6),h.3.kept hg (k h.7),h.4.kept hg (k h.8),h.5,h.6,h.7,h.8⟩
theorem Q4.app {q:bN}{w w':World}{lo hi B n:Nat}{v:Value}{xs:LV}(h:Q4 q w lo hi)(hf:w.ownsRow B 56 8 v n xs)(hg:w.grownBy w' v.ownBlock):Q4 q w' lo hi:=
 ⟨h.1.kept hg (fF h.1 hf (by decide)),h.2.kept hg (fF h.2 hf (by decide)),h.3.kept hg (fF h.3 hf (by decide)),h.4.kept hg (fF h.4 hf (by decide)),h.5,h.6,h.7,h.8⟩
theorem Q4.low {q:bN}{w w':World}{lo hi c:Nat}(h:Q4 q w lo hi)(hg:w.grownBy w' (some c))(hc:c<lo):Q4 q w' lo hi:=⟨aJ h.1 hc hg,aJ h.2 hc hg,aJ h.3 hc hg,aJ h.4 hc hg,h.5,h.6,h.7,h.8⟩
def qA (q:bN)(v:Value):LV:=[.string q.nm,.string q.ver,.string q.ar,.string q.sm,.slice q.na q.needs.length q.nc,.slice q.ba q.bars.length q.bc,.slice q.ga q.gives.length q.gc,v,.slice q.sa q.scripts.length q.sc]
structure CM (w wr:World) (b:dt) (q:bN) (kb:Nat) (v:Value) (fs ms:List ax):Prop where
 bu:av wr w.heap.size b.cells
 r1:av wr (w.heap.size+1) aW
 r2:av wr (w.heap.size+1+1) [.string ⟨#[]⟩,.string ⟨#[]⟩,.int .i64 0]
 kv:av wr kb (qA q v)
 q4:Q4 q wr (w.heap.size+3) kb
 fr:wr.ownsRow (w.heap.size+3) 56 8 v fs.length (fs.flatMap ax.cells)
 sm:aZ wr (kb+1) ms.length (LO ms)
 f1:v.ownBlock≠some kb
 f2:v.ownBlock≠some (kb+1)
 bel:Below w.heap.size w wr
 lo:w.heap.size+3≤kb
theorem CM.grow {w wr wx:World}{b:dt}{q:bN}{kb:Nat}{v:Value}{fs ms:List ax}(h:CM w wr b q kb v fs ms)(hb:Below wr.heap.size wr wx):CM w wx b q kb v fs ms:=
 ⟨h.bu.below hb,h.r1.below hb,h.r2.below hb,h.kv.below hb,h.q4.below hb,aD h.fr hb,h.sm.below hb,h.f1,h.f2,ap h.bel hb,h.lo⟩
theorem CM.mapped {w wr w':World}{b:dt}{q:bN}{kb:Nat}{v:Value}{fs ms:List ax}{x:ax}(h:CM w wr b q kb v fs ms)(hm:aZ w' (kb+1) (ms.length+1) (fun s=>if s=x.path then some (zo x) else LO ms s))(hg:wr.grownBy w' (some (kb+1))):CM w w' b q kb v fs (ms++[x]):=by
 have hlo:=h.lo
 refine⟨h.bu.grownC hg (by omega),h.r1.grownC hg (by omega),h.r2.grownC hg (by omega),h.kv.grownC hg (by omega),h.q4.kept hg (by omega),h.fr.kept hg (.inr h.f2),?_,h.f1,h.f2,h.bel.grown hg h.bel.size (fun j hj=>by injection hj with hj;omega),hlo⟩
 rw[Is,List.length_append];exact hm
theorem CM.app {w wa w1:World}{b:dt}{q:bN}{kb:Nat}{v v1:Value}{fs ms:List ax}{x:ax}(h:CM w wa b q kb v fs ms)(o1:w1.ownsRow (w.heap.size+3) 56 8 v1 (fs.length+1) (fs.flatMap ax.cells++x.cells))(g1:wa.grownBy w1 v.ownBlock)(a1:v1.ownBlock=v.ownBlock∨v1.ownBlock=some wa.heap.size):
  CM w (w1.setCell ⟨kb,7,none⟩ v1) b q kb v1 (fs++[x]) ms:=by
 have hlo:=h.lo
 have hkb:=h.kv.sz
 have hsm:=h.sm.lt
 have low:∀ c,c<w.heap.size+3→v.ownBlock≠some c:=fun c hc e=>by have:=(h.fr.lt c e).1;omega
 have n1:v1.ownBlock≠some kb:=fun e=>by
  rcases a1 with a | a
  ·rw[a] at e;exact h.f1 e
  ·rw[a] at e;injection e with e;omega
 have n2:v1.ownBlock≠some (kb+1):=fun e=>by
  rcases a1 with a | a
  ·rw[a] at e;exact h.f2 e
  ·rw[a] at e;injection e with e;omega
 have gs:=an (World.grownBy.refl w1 (some kb)) (p:=⟨kb,7,none⟩) (.inl rfl) v1
 have bx:Below w.heap.size w w1:=h.bel.grown g1 h.bel.size (fun j hj=>by have:=(h.fr.lt j hj).1;omega)
 refine⟨(h.bu.grownO g1 (low _ (by omega))).far (by omega) _,(h.r1.grownO g1 (low _ (by omega))).far (by omega) _,(h.r2.grownO g1 (low _ (by omega))).far (by omega) _,(h.kv.grownO g1 h.f1).set 7 (by show 7<9;decide) v1,(h.q4.app h.fr g1).kept gs lr,?_,(h.sm.kept g1 (fun e=>h.f2 e.symm)).kept gs (by intro e;injection e with e;omega),n1,n2,ag bx (by omega) _,hlo⟩
 have:=o1.kept gs (.inr n1)
 rw[List.length_append,List.flatMap_append]
 simpa using this
def MN (l:List am)(w:World)(e:Ending)(w':World):Prop:=
 ∃ (A:OA)(c:Nat)(m:List am),e=.returned (.slice A l.length c)∧m.length=l.length∧(∀ (i:Nat)(x y:am),l[i]?=some x→m[i]?=some y→x.same y) ∧
  w'.ownsRow w.heap.size 35 10 (.slice A l.length c) l.length (m.flatMap am.cells)∧(∀ y∈m,y.own w' w.heap.size)∧Below w.heap.size w w'
theorem oo {x:am}{w:World}{lo B s n g j:Nat}{e:TypeId}{A:OA}{c:Nat}{xs:LV}(h:x.own w lo)(hr:w.ownsRow B e s (.slice A n c) n xs)(hA:A=some ⟨g,0,none⟩)(hne:5≠e)(u:Value):x.own (w.setCell ⟨g,j,none⟩ u) lo:=by
 subst hA
 have hk:=fF h hr hne
 exact h.kept (an (World.grownBy.refl w (some g)) (p:=⟨g,j,none⟩) (.inl rfl) u) hk
theorem BN (A:OA)(c:Nat)(l:List am)(w:World)(hE:fL w A l)(hl:l.length≤100000)(hs:∀ x∈l,x.small):
  Calls Tryz.prog 61 #[.slice A l.length c] w (MN l w):=by
 have HE:=ae hE
 have HS:=ae hs
 clear hE hs
 go_enter Tryz.func61,Tryz.ntmps61
 go_wp2_with fail
 refine(Ft A c l _ HE.out.row hl).mono ?_
 rintro e w1 ⟨v,rfl,hown,hb1⟩
 obtain⟨A0,c0,rfl⟩:=aL hown
 have HO:=ae hown
 have HB:=ae hb1
 clear hown hb1
 by_cases hz:l=[]
 ·subst hz
  go_wp2_with fail
  refine wp_loop_rounds 1 ?_
  rw[rounds_succ]
  go_wp2_with fail
  go_ret
  exact⟨A0,c0,[],rfl,rfl,(fun i x y h=>by simp at h),HO.out,(fun y hy=>by simp at hy),HB.out⟩
 have hpos:0<l.length:=List.length_pos_iff.2 hz
 obtain⟨g,hA0,hg1,hg2,_,_⟩:=fE HO.out hpos
 subst hA0
 clear hz
 go_wp2_with fail
 go_loopw [9] (fun i wr=>∃ (k:Nat)(qs:List am),k≤l.length∧i=.int .i64 k∧Hid (qs.length=k∧(∀ (i:Nat)(x y:am),l[i]?=some x→qs[i]?=some y→x.same y))∧Hid (wr.ownsRow w.heap.size 35 10 (.slice (some ⟨g,0,none⟩) l.length c0) l.length ((qs++l.drop k).flatMap am.cells))∧Hid (∀ y∈qs,y.own wr w.heap.size)∧Hid (Below w.heap.size w wr)) (fun i _=>l.length-(intOf i).toNat)
 case atStart=>exact⟨0,[],z0,rfl,⟨rfl,fun i x y _ h=>by simp at h⟩,by simpa [Hid] using HO.out,(fun y hy=>by simp at hy),HB⟩
 case round=>
  obtain⟨k,qs,hk,rfl,HQ,HR,HD,HBR⟩:=hrel
  by_cases hlt:k<l.length
  case neg=>
   obtain rfl:k=l.length:=by omega
   have HF:Hid (wr.ownsRow w.heap.size 35 10 (.slice (some ⟨g,0,none⟩) l.length c0) l.length (qs.flatMap am.cells)):=by show World.ownsRow _ _ _ _ _ _ _;have h:=HR.out;simpa using h
   go_wp2_with fail
   go_ret
   exact⟨_,c0,qs,rfl,HQ.out.1,HQ.out.2,HF.out,HD.out,HBR.out⟩
  obtain⟨x,hx⟩:∃ x,l[k]?=some x:=⟨_,gG hlt⟩
  have hdrop:l.drop k=x::l.drop (k+1):=by rw[List.drop_eq_getElem_cons hlt];congr 1;exact(gS hx).2
  have hixA:=fun W=>aH (T:=28) (E:=35) (sz:=10) (c:=c0) (A:=some ⟨g,0,none⟩) (b:=g) (off:=0) Tryz.underlying28 rfl Tryz.sizeOf35 rfl hlt W
  simp only[Nat.zero_add] at hixA
  have HRg:Hid (wr.ownsRow w.heap.size 35 10 (.slice (some ⟨g,0,none⟩) l.length c0) l.length ((qs++x::l.drop (k+1)).flatMap am.cells)):=by have h:=HR.out;rw[hdrop] at h;exact h
  have e9:wr.cell? ⟨g,k*10+9,none⟩=some (.slice x.da x.data.length x.dc):=by
   rw[HRg.out.cellAt (k*10+9) (by omega)]
   exact ei bP (qs++x::l.drop (k+1)) k 9 x (by rw[List.getElem?_append_right (by rw[HQ.out.1];exact Nat.le_refl _),HQ.out.1];simp) (by omega)
  have DX:Hid (Rd wr 1 x.da x.data.length (x.data.map vb)):=(HE.out.all x (gM hx)).below HBR.out
  have hxd:=(HS.out x (gM hx)).data
  have HX:=ae hx
  clear hx hdrop
  go_wp2_with fail
  refine(pI x.da x.dc x.data.length x.data _ DX.out (by omega)).mono ?_
  rintro e w2 ⟨v2,rfl,o2,b2⟩
  obtain⟨a2,c2,rfl⟩:=aL o2
  have R2:=ae (aD HRg.out b2)
  have y9:w2.cell? ⟨g,k*10+9,none⟩=some (.slice x.da x.data.length x.dc):=by
   rw[R2.out.cellAt (k*10+9) (by omega)]
   exact ei bP (qs++x::l.drop (k+1)) k 9 x (by rw[List.getElem?_append_right (by rw[HQ.out.1];exact Nat.le_refl _),HQ.out.1];simp) (by omega)
  have f9:=R2.out.frozenAt (k*10+9)
  have hg3:w.heap.size≤g:=hg1
  have X2:Hid (am.own { x with da:=a2,dc:=c2 } w2 w.heap.size):=aN o2 HBR.out.size
  have D2:Hid (∀ y∈qs,y.own w2 w.heap.size):=fun y hy=>aD (HD.out y hy) b2
  have L2:=ae (ap HBR.out b2)
  have N3:Hid ((w2.setCell ⟨g,k*10+9,none⟩ (.slice a2 x.data.length c2)).ownsRow w.heap.size 35 10 (.slice (some ⟨g,0,none⟩) l.length c0) l.length ((qs++[{ x with da:=a2,dc:=c2 }]++l.drop (k+1)).flatMap am.cells)):=by
   show World.ownsRow _ _ _ _ _ _ _
   have h:=(R2.out.stored (k*10+9) (.slice a2 x.data.length c2)).1
   rw[vr bP qs (l.drop (k+1)) x { x with da:=a2,dc:=c2 } k 9 _ HQ.out.1 (by omega) rfl] at h
   simpa using h
  have D3:Hid (∀ y∈qs++[{ x with da:=a2,dc:=c2 }],y.own (w2.setCell ⟨g,k*10+9,none⟩ (.slice a2 x.data.length c2)) w.heap.size):=by
   intro y hy
   rcases List.mem_append.1 hy with hy | hy
   ·exact oo (D2.out y hy) R2.out rfl (by decide) _
   ·rw[List.mem_singleton.1 hy];exact oo X2.out R2.out rfl (by decide) _
  have L3:Hid (Below w.heap.size w (w2.setCell ⟨g,k*10+9,none⟩ (.slice a2 x.data.length c2))):=ag L2.out hg3 _
  have Q3:Hid ((qs++[{ x with da:=a2,dc:=c2 }]).length=k+1∧(∀ (i:Nat)(x' y:am),l[i]?=some x'→(qs++[{ x with da:=a2,dc:=c2 }])[i]?=some y→x'.same y)):=by
   refine⟨by simp[HQ.out.1],fun i x' y hi hy=>?_⟩
   by_cases h:i<k
   ·rw[List.getElem?_append_left (by rw[HQ.out.1];exact h)] at hy
    exact HQ.out.2 i x' y hi hy
   ·have hik:i=k:=by
     have:=(gS hy).1
     simp[HQ.out.1] at this;omega
    subst hik
    rw[List.getElem?_append_right (by rw[HQ.out.1];exact Nat.le_refl _),HQ.out.1] at hy
    simp at hy
    rw[HX.out] at hi;injection hi with hi
    subst hi;subst hy
    exact⟨rfl,rfl,rfl,rfl,rfl,rfl,rfl,rfl,rfl,rfl⟩
  clear o2 b2 e9
  go_wp2_with fail
  go_roundw
  case rel=>exact⟨k+1,qs++[{ x with da:=a2,dc:=c2 }],by omega,by go_num,Q3,N3,D3,L3⟩
  case measure=>simp[intOf];omega
def Kj (x:am):Bool:=decide (x.kind=1∨x.kind=4)
def grp (x:am):BA:=if x.kind=4 then x.link else x.path
def lz (l:List am)(i:Nat):BA:=((l[i]?).map am.path).getD ⟨#[]⟩
def CV (l:List am)(x:am):Option Nat→Bool
 | none=>true
 | some i=>decide (bl x.path<bl (lz l i))
def fu (l:List am):Nat→BA→Option Nat
 | 0,_=>none
 | k+1,s=>match l[k]? with
  | none=>fu l k s
  | some x=>if Kj x=true∧grp x=s∧CV l x (fu l k s)=true then some k else fu l k s
def mz (l:List am):Nat→BA→Option Nat
 | 0,_=>none
 | k+1,s=>match l[k]? with
  | none=>mz l k s
  | some x=>if x.kind=1∧x.path=s then some k else mz l k s
theorem lQ (l:List am):∀ (k:Nat)(s:BA)(i:Nat),fu l k s=some i→i<k
 | 0,_,_,h=>by cases h
 | k+1,s,i,h=>by
  unfold fu at h
  split at h
  ·have:=lQ l k s i h;omega
  ·split at h
   ·injection h with h;omega
   ·have:=lQ l k s i h;omega
theorem tf (l:List am):∀ (k:Nat)(s:BA)(i:Nat),mz l k s=some i→i<k
 | 0,_,_,h=>by cases h
 | k+1,s,i,h=>by
  unfold mz at h
  split at h
  ·have:=tf l k s i h;omega
  ·split at h
   ·injection h with h;omega
   ·have:=tf l k s i h;omega
def tv (l:List am)(k:Nat)(s:BA):Option Value:=(fu l k s).map fun i:Nat=>.int .i64 (i:Int)
def zG (l:List am)(k:Nat)(s:BA):Option Value:=(mz l k s).map fun i:Nat=>.int .i64 (i:Int)
theorem Kk {l:List am}{k:Nat}{x:am}(h:l[k]?=some x)(hg:Kj x=false):tv l (k+1)=tv l k:=by
 funext s;unfold tv;rw[fu,h];simp[hg]
theorem CX {l:List am}{k:Nat}{x:am}(h:l[k]?=some x)(hg:¬ x.kind=1):zG l (k+1)=zG l k:=by
 funext s;unfold zG;rw[mz,h];simp[hg]
theorem Km {l:List am}{k:Nat}{x:am}(h:l[k]?=some x)(hg:x.kind=1):zG l (k+1)=fun s=>if s=x.path then some (.int .i64 k) else zG l k s:=by
 funext s;unfold zG;rw[mz,h]
 by_cases e:s=x.path
 ·subst e;simp[hg]
 ·simp[hg,e,show ¬ x.path=s from fun e'=>e e'.symm]
theorem Kn {l:List am}{k:Nat}{x:am}(h:l[k]?=some x)(hg:Kj x=true)(hl:CV l x (fu l k (grp x))=true):tv l (k+1)=fun s=>if s=grp x then some (.int .i64 k) else tv l k s:=by
 funext s;unfold tv;rw[fu,h]
 by_cases e:s=grp x
 ·subst e;simp[hg,hl]
 ·simp[hg,e,show ¬ grp x=s from fun e'=>e e'.symm]
theorem IM {l:List am}{k:Nat}{x:am}(h:l[k]?=some x)(hl:CV l x (fu l k (grp x))=false):tv l (k+1)=tv l k:=by
 funext s;unfold tv;rw[fu,h]
 by_cases e:s=grp x
 ·subst e;simp[hl]
 ·simp[show ¬ grp x=s from fun e'=>e e'.symm]
def eH (l:List am)(x:am):Nat:=(fu l l.length (grp x)).getD 0
def jg (l:List am)(x:am):Nat:=(mz l l.length (grp x)).getD 0
def ph (l:List am)(i:Nat):LU:=((l[i]?).map am.data).getD []
def pi (l:List am)(i:Nat)(x:am):am:=
 if Kj x=true then (if i=eH l x then { x with kind:=1,link:=⟨#[]⟩,data:=ph l (jg l x) } else { x with kind:=4,link:=lz l (eH l x),data:=[] }) else x
theorem Fy {l:List am}{x:am}(h:0<l.length):eH l x<l.length:=by
 unfold eH;cases e:fu l l.length (grp x) with
 | none=>exact h
 | some i=>exact lQ l _ _ _ e
theorem Fz {l:List am}{x:am}(h:0<l.length):jg l x<l.length:=by
 unfold jg;cases e:mz l l.length (grp x) with
 | none=>exact h
 | some i=>exact tf l _ _ _ e
theorem FA (l:List am)(x:am):(tv l l.length (grp x)).getD (.int .i64 0)=.int .i64 (eH l x:Nat):=by
 unfold tv eH;cases fu l l.length (grp x)<;>rfl
theorem IN (l:List am)(x:am):(zG l l.length (grp x)).getD (.int .i64 0)=.int .i64 (jg l x:Nat):=by
 unfold zG jg;cases mz l l.length (grp x)<;>rfl
theorem zv {x:am}(h:x.small):(grp x).size≤1000000:=by unfold grp;split;exact h.link;exact h.path
def CY (l:List am)(w:World)(e:Ending)(w':World):Prop:=
 Below w.heap.size w w'∧(((pt l).2≠0∧e=.returned (.tuple #[.slice none 0 0,.int .i64 (pt l).2])) ∨
 ((pt l).2=0∧∃ (A:OA)(c:Nat)(m0 m:List am),e=.returned (.tuple #[.slice A l.length c,.int .i64 0])∧m0.length=l.length∧(∀ (i:Nat)(x y:am),l[i]?=some x→m0[i]?=some y→(pi l i x).same y) ∧
   m.Perm m0∧m.Pairwise (fun x y=>¬ bl y.path<bl x.path)∧w'.ownsRow w.heap.size 35 10 (.slice A l.length c) l.length (m.flatMap am.cells)∧∀ y∈m,y.own w' w.heap.size))
theorem BO (x:am)(w:World):Calls Tryz.prog 62 #[x.val] w fun e w'=>e=.returned (.string (grp x))∧Below w.heap.size w w':=by
 by_cases hk:x.kind=4
 ·have q:(x.kind==4)=true:=by simpa using hk
  have G:Hid (grp x=x.link):=by show _=_;unfold grp;rw[if_pos hk]
  clear hk
  unfold am.val
  go_enter Tryz.func62,Tryz.ntmps62
  go_wp2_with fail
  go_ret
  exact⟨by rw[G.out];rfl,bR.alloc lr _⟩
 ·have q:(x.kind==4)=false:=by simpa using hk
  have G:Hid (grp x=x.path):=by show _=_;unfold grp;rw[if_neg hk]
  clear hk
  unfold am.val
  go_enter Tryz.func62,Tryz.ntmps62
  go_wp2_with fail
  go_ret
  exact⟨by rw[G.out];rfl,bR.alloc lr _⟩
structure IP (w wr:World) (lo mb n1 n2:Nat) (l:List am) (Ao:OA) (co k:Nat) (qs:List am) (y:am) (rs:List am):Prop where
 ql:qs.length=k
 rl:k+1+rs.length=l.length
 qsame:∀ (i:Nat)(a b:am),l[i]?=some a→qs[i]?=some b→(pi l i a).same b
 rsame:∀ (i:Nat)(a b:am),l[k+1+i]?=some a→rs[i]?=some b→a.same b
 row:wr.ownsRow lo 35 10 (.slice Ao l.length co) l.length ((qs++y::rs).flatMap am.cells)
 own:∀ z∈qs++y::rs,z.own wr lo
 m1:aZ wr mb n1 (tv l l.length)
 m2:aZ wr (mb+1) n2 (zG l l.length)
 bel:Below w.heap.size w wr
 lo:w.heap.size≤lo
 hi:∀ g,(Value.slice Ao l.length co).ownBlock=some g→g<mb
structure Mi (w wr:World) (lo mb n1 n2:Nat) (l:List am) (Ao:OA) (co k:Nat) (qs rs:List am):Prop where
 ql:qs.length=k
 rl:k+rs.length=l.length
 qsame:∀ (i:Nat)(a b:am),l[i]?=some a→qs[i]?=some b→(pi l i a).same b
 rsame:∀ (i:Nat)(a b:am),l[k+i]?=some a→rs[i]?=some b→a.same b
 row:wr.ownsRow lo 35 10 (.slice Ao l.length co) l.length ((qs++rs).flatMap am.cells)
 own:∀ z∈qs++rs,z.own wr lo
 m1:aZ wr mb n1 (tv l l.length)
 m2:aZ wr (mb+1) n2 (zG l l.length)
 bel:Below w.heap.size w wr
 lo:w.heap.size≤lo
 hi:∀ g,(Value.slice Ao l.length co).ownBlock=some g→g<mb
theorem IP.below {w wr w':World}{lo mb n1 n2:Nat}{l:List am}{Ao:OA}{co k:Nat}{qs rs:List am}{y:am}(h:IP w wr lo mb n1 n2 l Ao co k qs y rs)(hb:Below wr.heap.size wr w'):IP w w' lo mb n1 n2 l Ao co k qs y rs:=
 ⟨h.ql,h.rl,h.qsame,h.rsame,aD h.row hb,fun z hz=>aD (h.own z hz) hb,h.m1.below hb,h.m2.below hb,ap h.bel hb,h.lo,h.hi⟩
theorem Mi.next {w wr:World}{lo mb n1 n2:Nat}{l:List am}{Ao:OA}{co k:Nat}{qs rs:List am}(h:Mi w wr lo mb n1 n2 l Ao co k qs rs)(hk:k<l.length):∃ y r,rs=y::r∧IP w wr lo mb n1 n2 l Ao co k qs y r∧∀ x,l[k]?=some x→x.same y:=by
 cases rs with
 | nil=>have:=h.rl;simp at this;omega
 | cons y r=>
  refine⟨y,r,rfl,⟨h.ql,by have:=h.rl;simp at this;omega,h.qsame,fun i a b ha hb=>h.rsame (i+1) a b (by rw[show k+(i+1)=k+1+i by omega];exact ha) (by simpa using hb),h.row,h.own,h.m1,h.m2,h.bel,h.lo,h.hi⟩,fun x hx=>h.rsame 0 x y (by simpa using hx) rfl⟩
theorem IP.done {w wr:World}{lo mb n1 n2:Nat}{l:List am}{Ao:OA}{co k:Nat}{qs rs:List am}{x y:am}(h:IP w wr lo mb n1 n2 l Ao co k qs y rs)(hx:l[k]?=some x)(hs:(pi l k x).same y):Mi w wr lo mb n1 n2 l Ao co (k+1) (qs++[y]) rs:=by
 refine⟨by simp[h.ql],h.rl,fun i a b ha hb=>?_,h.rsame,by have:=h.row;simpa using this,by have:=h.own;simpa using this,h.m1,h.m2,h.bel,h.lo,h.hi⟩
 by_cases hi:i<k
 ·rw[List.getElem?_append_left (by rw[h.ql];exact hi)] at hb
  exact h.qsame i a b ha hb
 ·have hik:i=k:=by
   have:=(gS hb).1
   simp[h.ql] at this;omega
  subst hik
  rw[List.getElem?_append_right (by rw[h.ql];exact Nat.le_refl _),h.ql] at hb
  simp at hb
  rw[hx] at ha;injection ha with ha
  subst ha;subst hb
  exact hs
theorem IP.cell {w wr:World}{lo mb n1 n2:Nat}{l:List am}{Ao:OA}{co k g:Nat}{qs rs:List am}{y:am}(h:IP w wr lo mb n1 n2 l Ao co k qs y rs)(hA:Ao=some ⟨g,0,none⟩)(j:Nat)(u:Value)(hu:y.cells[j]?=some u):wr.cell? ⟨g,k*10+j,none⟩=some u∧wr.frozen? ⟨g,k*10+j,none⟩=false:=by
 subst hA
 have hj:j<10:=by rw[←bP y];exact(gS hu).1
 have hkl:=h.rl
 refine⟨?_,h.row.frozenAt _⟩
 rw[h.row.cellAt (k*10+j) (by omega),ei bP (qs++y::rs) k j y (by rw[List.getElem?_append_right (by rw[h.ql];exact Nat.le_refl _),h.ql];simp) hj]
 exact hu
theorem IP.set {w wr:World}{lo mb n1 n2:Nat}{l:List am}{Ao:OA}{co k g j:Nat}{qs rs:List am}{y y':am}{u:Value}(h:IP w wr lo mb n1 n2 l Ao co k qs y rs)(hA:Ao=some ⟨g,0,none⟩)(hj:j<10)(hs:y.cells.set j u=y'.cells)(ho:y'.own wr lo):
  IP w (wr.setCell ⟨g,k*10+j,none⟩ u) lo mb n1 n2 l Ao co k qs y' rs:=by
 have hg:=h.hi g (by subst hA;rfl)
 have hb:lo≤g:=by have:=h.row.lt g (by subst hA;rfl);exact this.1
 have gs:=an (World.grownBy.refl wr (some g)) (p:=⟨g,k*10+j,none⟩) (.inl rfl) u
 refine⟨h.ql,h.rl,h.qsame,h.rsame,?_,fun z hz=>?_,h.m1.kept gs (by intro e;injection e with e;omega),h.m2.kept gs (by intro e;injection e with e;omega),ag h.bel (by have:=h.lo;omega) _,h.lo,h.hi⟩
 ·have hrow:=h.row
  subst hA
  have:=(hrow.stored (k*10+j) u).1
  rwa [vr bP qs rs y y' k j u h.ql hj hs] at this
 ·rcases List.mem_append.1 hz with hz | hz
  ·exact oo (h.own z (List.mem_append.2 (.inl hz))) h.row hA (by decide) u
  ·rcases List.mem_cons.1 hz with rfl | hz
   ·exact oo ho h.row hA (by decide) u
   ·exact oo (h.own z (List.mem_append.2 (.inr (List.mem_cons_of_mem _ hz)))) h.row hA (by decide) u
theorem IQ {l:List am}{k:Nat}{x:am}(h:Kj x=false):pi l k x=x:=by unfold pi;rw[if_neg (by simp[h])]
theorem BQ {l:List am}{k:Nat}{x:am}(h:Kj x=true)(hk:k=eH l x):pi l k x={ x with kind:=1,link:=⟨#[]⟩,data:=ph l (jg l x) }:=by unfold pi;rw[if_pos h,if_pos hk]
theorem FB {l:List am}{k:Nat}{x:am}(h:Kj x=true)(hk:¬ k=eH l x):pi l k x={ x with kind:=4,link:=lz l (eH l x),data:=[] }:=by unfold pi;rw[if_pos h,if_neg hk]
end
section
open Go.RowKit Go.Shelf Go.Lib Go.Sort
theorem uo (s t:BA)(w:World):Calls Tryz.prog 66 #[.string s,.string t] w fun e w'=>e=.returned (.int .i64 (if bl s<bl t then -1 else if bl t<bl s then 1 else 0))∧w=w':=by
 have l1:=dj s.toList t.toList
 have l2:=dj t.toList s.toList
 rw[ai,ai] at l1 l2
 by_cases h:bl s<bl t
 ·rw[if_pos h]
  rw[←ai s,←ai t] at l1
  have q:Op.bytesLess s.toList t.toList=true:=by rw[l1,ai,ai];exact dT h
  clear l1 l2 h
  go_enter Tryz.func66,Tryz.ntmps66
  go_wp2_with fail
  refine(gE s _).mono ?_;rintro e w' ⟨rfl,rfl⟩
  go_wp2_with fail
  refine(gE t _).mono ?_;rintro e w' ⟨rfl,rfl⟩
  go_wp2_with fail
  go_ret
  exact⟨rfl,rfl⟩
 ·rw[if_neg h]
  have q:Op.bytesLess s.toList t.toList=false:=by rw[dj,ai,ai];exact dF h
  by_cases h2:bl t<bl s
  ·rw[if_pos h2]
   have q2:(s.toList==t.toList)=false:=by rw[fi];exact dF (fun e=>by rw[e] at h2;exact rN _ h2)
   clear l1 l2 h h2
   go_enter Tryz.func66,Tryz.ntmps66
   go_wp2_with fail
   refine(gE s _).mono ?_;rintro e w' ⟨rfl,rfl⟩
   go_wp2_with fail
   refine(gE t _).mono ?_;rintro e w' ⟨rfl,rfl⟩
   go_wp2_with fail
   go_ret
   exact⟨rfl,rfl⟩
  ·rw[if_neg h2]
   have q2:(s.toList==t.toList)=true:=by
    rw[fi];apply dT
    by_cases e:s=t
    ·exact e
    ·exact absurd (oQ h (fun e'=>e (eM e'))) h2
   clear l1 l2 h h2
   go_enter Tryz.func66,Tryz.ntmps66
   go_wp2_with fail
   refine(gE s _).mono ?_;rintro e w' ⟨rfl,rfl⟩
   go_wp2_with fail
   refine(gE t _).mono ?_;rintro e w' ⟨rfl,rfl⟩
   go_wp2_with fail
   go_ret
   exact⟨rfl,rfl⟩
theorem Ko (x y:am)(W:World):Calls Tryz.prog 65 #[.agg x.cells.toArray,.agg y.cells.toArray] W fun e w'=>e=.returned (.int .i64 (FW am.path x y))∧∃ q os',w'=grow (W.drewN q) os':=by
 have hS:=fun W=>uo x.path y.path W
 have E:Hid ((if bl x.path<bl y.path then (-1:Int) else if bl y.path<bl x.path then 1 else 0)=FW am.path x y):=rfl
 generalize (if bl x.path<bl y.path then (-1:Int) else if bl y.path<bl x.path then 1 else 0)=r at hS E
 unfold am.cells
 go_enter Tryz.func65,Tryz.ntmps65
 go_wp2_with fail
 refine(hS _).mono ?_;rintro e w' ⟨rfl,rfl⟩
 go_wp2_with fail
 go_ret
 exact⟨aE E.out,0,_,by rw[alloc_eq_grow,alloc_eq_grow,grow_grow];rfl⟩
instance:Inhabited am:=⟨⟨⟨#[]⟩,0,0,0,0,⟨#[]⟩,⟨#[]⟩,0,⟨#[]⟩,none,0,[]⟩⟩
theorem FC (A:OA)(cap base n:Nat)(l:List am)(hn:Hid (l.length=n))(w:World)(h:w.ownsRow base 35 10 (.slice A n cap) n (l.flatMap am.cells))(hl:n≤100000):
  Calls Tryz.prog 64 #[.slice A n cap,.func (.func 65) #[] #[]] w (td am.path am.cells 35 10 base (.slice A n cap) l w):=by
 have e:=hn.out
 subst e
 by_cases hn:l=[]
 ·subst hn
  refine(AnyF.slices_SortFunc_none Tryz.sortEnt A cap _ w).mono ?_
  rintro e w' ⟨rfl,rfl⟩
  exact⟨rfl,[],.nil,.nil,h,World.grownBy.refl _ _⟩
 ·have hpos:0<l.length:=List.length_pos_iff.2 hn
  obtain⟨g,hA,hb,hg,_,_⟩:=fE h hpos
  subst hA
  have eg:∀ args w,(callFunc 65 args).run Tryz.prog w=.ok (.enter 65 args) w:=enters_of Tryz.func65 (by kernel_rfl) rfl
  have hcmp:CmpLays Tryz.prog 65 #[] am.cells 10 (FW am.path) g 0 l.toArray.size w:=fun m os dk _ a b=>Ko a b _
  have hH:=sY bP h
  have hcon:=AnyQ.slices_SortFunc Tryz.sortEnt 10 Tryz.isAgg35 Tryz.sizeOf35 am.cells bP (fun x v hv=>wW x v hv) (FW am.path) (CQ am.path) 65 #[] g 0 cap l.toArray w eg hcmp hH hg (by simp;omega)
  refine hcon.mono ?_
  rintro e w' ⟨rfl,d',n,os,hp,hs,rfl⟩
  have hp':=vu (l:=l) rfl (by simpa using hp)
  have hd:d'.size=l.length:=by have:=hp'.length_eq;simpa using this
  obtain⟨h1,h2⟩:=zu bP h d' hd n os
  exact⟨rfl,d'.toList,hp',pJ hd (by simpa using hs),h1,h2⟩
end
end Go.Proofs.YtlglfpbhapmhiaaGreatDoor
