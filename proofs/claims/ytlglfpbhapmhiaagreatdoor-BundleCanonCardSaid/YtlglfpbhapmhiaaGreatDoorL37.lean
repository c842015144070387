/- A part of the proof. -/
import Derived.Test.YtlglfpbhapmhiaaGreatDoorL32
import Derived.Test.YtlglfpbhapmhiaaGreatDoorL36
set_option maxRecDepth 100000
set_option maxHeartbeats 20000000
set_option linter.unusedVariables false
set_option linter.unusedSimpArgs false
namespace Go.Proofs.YtlglfpbhapmhiaaGreatDoor
variable{s:BA}{xs:LV}{B c co g hi i j k kb lo mb n n1 n2:Nat}{Ao:OA}{e:TypeId}{v:Value}{w w' wr:World}
section
open Go.RowKit Go.Maps
theorem iS (s:BA)(w:World):Calls Tryz.prog 100 #[.string s] w fun e w'=>e=.returned (.bool false)/\w=w':=by
 have q:(s.toList != s.toList)=false:=by simp
 go_in;go_wp2;go_ret;exact⟨af (by simp),rfl⟩
theorem Ni (s:BA)(w:World):Calls Tryz.prog 57 #[.string s] w fun e w'=>e=.returned (.bool false)/\w=w':=by
 have q:(s.toList != s.toList)=false:=by simp
 go_in;go_wp2;go_ret;exact⟨af (by simp),rfl⟩
theorem Nj (s t:BA)(w:World):Calls Tryz.prog 56 #[.string s,.string t] w fun e w'=>e=.returned (.bool (decide (bl s<bl t)))/\w=w':=by
 go_in;go_wp2_with fail;refine(iS s _).mono ?_;rintro e w' ⟨rfl,rfl⟩;go_wp2;go_ret;exact⟨af (by rw[dA,aj,aj]),rfl⟩
def Rq (l:List BA)(s:BA)(e:Ending):Prop:=∃ n:Int,e=.returned (.tuple #[.int .i64 n,.bool (yL l s)])
theorem Pt {l:List BA}:∀ {f i j:Nat},¬ i<j->DI l s f i j=i
 | 0,i,j,_=>rfl
 | f+1,i,j,h=>by rw[DI,if_neg h]
theorem Gi (A:OA)(c:Nat)(l:List BA)(s:BA)(w:World)(hr:Rd w 1 A l.length (ay l))(hl:l.length<=100000):Calls Tryz.prog 23 #[.slice A l.length c,.string s] w fun e w'=>Rq l s e/\w=w':=by
 have HR:=ae hr;clear hr;go_in;go_wp2;go_loop [7,8] (fun i j=>∃ (a b f:Nat),a<=b/\b<=l.length/\b-a<=f/\i=.int .i64 a/\j=.int .i64 b/\Hid (DI l s f a b=DI l s l.length 0 l.length)) (fun i j=>(intOf j).toNat-(intOf i).toNat)
 case atStart=>exact⟨0,l.length,l.length,z0,lr,by omega,rfl,rfl,rfl⟩
 case round=>
  obtain⟨a,b,f,hab,hbl,hf,rfl,rfl,HP⟩:=hrel;by_cases hlt:a<b
  ·obtain⟨g,rfl⟩:∃ g,f=g+1:=⟨f-1,by omega⟩
   obtain⟨h,hh⟩:∃ h,(a+b) / 2=h:=⟨_,rfl⟩
   have h1:a<=h:=by omega
   have h2:h<b:=by omega
   obtain⟨x,hx⟩:∃ x,l[h]?=some x:=⟨_,gG (by omega)⟩
   obtain⟨bp,op,hAp,hep⟩:=HR.out.str h x hx;have hixp:=fun W=>aB (T:=22) (E:=9) (sz:=1) (c:=c) Tryz.underlying22 rfl Tryz.sizeOf9 hAp (show h<l.length by omega) W;simp only[Nat.mul_one] at hixp;have hgd:l.getD h ⟨#[]⟩=x:=by rw[List.getD_eq_getElem?_getD,hx];rfl
   have PP:Hid (DI l s (g+1) a b=if bl x<bl s then DI l s g (h+1) b else DI l s g a h):=by show _=_;rw[DI,if_pos hlt,hh,hgd]
   have hq:((a:Int)+(b:Int)) / 2=(h:Int):=by omega
   clear hx hAp hgd hh;go_wp2_with fail;refine(Nj x s _).mono ?_;rintro e w' ⟨rfl,rfl⟩;obtain⟨o,ho⟩:∃ o,decide (bl x<bl s)=o:=⟨_,rfl⟩
   rw[ho];cases o
   ·have R:Hid (DI l s g a h=DI l s l.length 0 l.length):=by show _=_;rw[<-HP.out,PP.out,if_neg (of_decide_eq_false ho)]
    clear ho;go_wp2;go_round
    case rel=>exact⟨a,h,g,by omega,by omega,by omega,rfl,rfl,R⟩
    case measure=>simp[intOf];omega
   ·have R:Hid (DI l s g (h+1) b=DI l s l.length 0 l.length):=by show _=_;rw[<-HP.out,PP.out,if_pos (dO ho)]
    clear ho;go_wp2;go_round
    case rel=>exact⟨h+1,b,g,by omega,by omega,by omega,by go_num,rfl,R⟩
    case measure=>simp[intOf];omega
  ·have E:Hid (DI l s l.length 0 l.length=a):=by show _=_;rw[<-HP.out];exact Pt hlt
   by_cases ha:a<l.length
   ·obtain⟨x,hx⟩:∃ x,l[a]?=some x:=⟨_,gG ha⟩
    obtain⟨bp,op,hAp,hep⟩:=HR.out.str a x hx;have hixp:=fun W=>aB (T:=22) (E:=9) (sz:=1) (c:=c) Tryz.underlying22 rfl Tryz.sizeOf9 hAp ha W;simp only[Nat.mul_one] at hixp;have HX:=ae hx;have hai:(a:Int)<(l.length:Int):=by omega
    clear hx hAp;by_cases hxs:x=s
    ·have q:(x.toList==s.toList)=true:=by rw[hxs];simp
     have R:Hid (yL l s=true):=by show _=_;unfold yL;rw[E.out,HX.out,hxs];simp
     clear hxs;go_wp2;go_ret2;exact⟨⟨a,by rw[R.out];rfl⟩,rfl⟩
    ·have q:(x.toList==s.toList)=false:=by rw[et];exact dF hxs
     have R:Hid (yL l s=false):=by show _=_;unfold yL;rw[E.out,HX.out];simp[hxs]
     clear hxs;go_wp2_with fail;refine(Ni x _).mono ?_;rintro e w' ⟨rfl,rfl⟩;go_wp2;go_ret2;exact⟨⟨a,by rw[R.out];rfl⟩,rfl⟩
   ·have R:Hid (yL l s=false):=by show _=_;unfold yL;rw[E.out,List.getElem?_eq_none (by omega)];rfl
    have hai:¬ (a:Int)<(l.length:Int):=by omega
    go_wp2;go_ret2;exact⟨⟨a,by rw[R.out];rfl⟩,rfl⟩
def Nk (p:bK)(w:World)(e:Ending)(w':World):Prop:=∃ q:bK,e=.returned q.val/\p.alike q/\gj q w' (w.heap.size+1+1)/\Below w.heap.size w w'
def bg:LV:=[.string ⟨#[]⟩,.string ⟨#[]⟩,.string ⟨#[]⟩,.string ⟨#[]⟩,.slice none 0 0,.slice none 0 0,.slice none 0 0,.slice none 0 0,.slice none 0 0]
theorem nt (p:bK)(w:World)(hp:p.ok w)(hf:p.few):Calls Tryz.prog 19 #[p.val] w (Nk p w):=by
 have HP:=ae hp;have HF:=ae hf;clear hp hf;obtain⟨W0,hW0⟩:∃ W0,(w.alloc (.cells #[.string p.nm,.string p.ver,.string p.ar,.string p.sm,.slice p.na p.needs.length p.nc,.slice p.ba p.bars.length p.bc,.slice p.ga p.gives.length p.gc,.slice p.fa p.files.length p.fc,.slice p.sa p.scripts.length p.sc] 27)).alloc (.cells #[.string ⟨#[]⟩,.string ⟨#[]⟩,.string ⟨#[]⟩,.string ⟨#[]⟩,.slice none 0 0,.slice none 0 0,.slice none 0 0,.slice none 0 0,.slice none 0 0] 27)=W0:=⟨_,rfl⟩
 have hz0:W0.heap.size=w.heap.size+1+1:=by rw[<-hW0];simp
 have L0:Hid (Below w.heap.size w W0):=by show Below _ _ _;rw[<-hW0];exact(bR.alloc lr _).alloc (by simp) _
 have B0:Hid (ax W0 w.heap.size p.cells):=by show ax _ _ _;rw[<-hW0];exact(ax.new w p.cells _).alloc _
 have Z0:Hid (ax W0 (w.heap.size+1) bg):=by
  have h:=ax.new (w.alloc (.cells #[.string p.nm,.string p.ver,.string p.ar,.string p.sm,.slice p.na p.needs.length p.nc,.slice p.ba p.bars.length p.bc,.slice p.ga p.gives.length p.gc,.slice p.fa p.files.length p.fc,.slice p.sa p.scripts.length p.sc] 27)) bg 27;simp only[World.size_alloc] at h;show ax _ _ _;rw[<-hW0];exact h
 have c0:=B0.out.cell 0 _ rfl;have c1:=B0.out.cell 1 _ rfl;have c2:=B0.out.cell 2 _ rfl;have c3:=B0.out.cell 3 _ rfl;have c4:=B0.out.cell 4 _ rfl;have c5:=B0.out.cell 5 _ rfl;have c6:=B0.out.cell 6 _ rfl;have c7:=B0.out.cell 7 _ rfl;have c8:=B0.out.cell 8 _ rfl;have HZ0:=ae hz0;clear hz0;unfold bK.val;go_in;go_wp2_with fail;clear hW0 c0 c1 c2 c3 c4 c5 c6 c7 c8;have HB1:Hid (ax (W0.alloc (.cells p.cells.toArray 27)) W0.heap.size p.cells):=ax.new W0 p.cells _;have L1:Hid (Below W0.heap.size W0 (W0.alloc (.cells p.cells.toArray 27))):=bR.alloc lr _;have DB:wJ (W0.alloc (.cells p.cells.toArray 27)) (some ⟨W0.heap.size,0,none⟩) [p]:=by
  refine⟨⟨by simp[iG],fun _=>⟨_,0,rfl,fun j u hu=>?_⟩⟩,fun x hx=>?_⟩
  ·rw[Nat.zero_add];exact HB1.out.cell j u (by simpa using hu)
  ·rw[List.mem_singleton.1 hx];exact HP.out.below (aq L0.out L1.out)
 have CP:Calls Tryz.prog 52 #[.slice (some ⟨W0.heap.size,0,none⟩) 1 1] (W0.alloc (.cells p.cells.toArray 27)) (Ba [p] (W0.alloc (.cells p.cells.toArray 27))):=
  Ea (some ⟨W0.heap.size,0,none⟩) 1 [p] _ DB (by simp) (fun x hx=>by rw[List.mem_singleton.1 hx];exact HF.out)
 refine CP.mono ?_;rintro e w2 ⟨A,c,g0,l',rfl,hl,ha,ho,hb⟩;obtain⟨q,rfl⟩:=List.length_eq_one_iff.1 hl;have AL:Hid (p.alike q):=ha 0 p q rfl rfl;have L2:Hid (Below W0.heap.size W0 w2):=aq L1.out hb;have Z2:=ae (Z0.out.below L2.out);have RW:=ae ho.row;have PO0:=ae (ho.all q (List.mem_singleton.2 rfl));obtain⟨g,hA,hg1,hg2,hex,hfr⟩:=iR ho.row (show 0<1 by omega);subst hA;have hlow:W0.heap.size+1<=g:=by simpa using hg1
 have HG0:g0=g:=by have:=ho.blk (by simp);simp[Value.ownBlock] at this;exact this.symm
 have PO:Hid (gj q w2 (w.heap.size+1+1)):=PO0.out.base (by have:=HZ0.out;omega);have cells:∀ (j:Nat)(u:Value),q.cells[j]?=some u->w2.cell? ⟨g,j,none⟩=some u:=fun j u hu=>by
  have hj:j<9:=by rw[<-iG q];exact(gS hu).1
  rw[RW.out.cellAt j (by simpa using hj)];simpa using hu
 have e0:=cells 0 _ rfl;have e1:=cells 1 _ rfl;have e2:=cells 2 _ rfl;have e3:=cells 3 _ rfl;have e4:=cells 4 _ rfl;have e5:=cells 5 _ rfl;have e6:=cells 6 _ rfl;have e7:=cells 7 _ rfl;have e8:=cells 8 _ rfl;have z0:=Z2.out.cell 0 _ rfl;have z1:=Z2.out.cell 1 _ rfl;have z2:=Z2.out.cell 2 _ rfl;have z3:=Z2.out.cell 3 _ rfl;have z4:=Z2.out.cell 4 _ rfl;have z5:=Z2.out.cell 5 _ rfl;have z6:=Z2.out.cell 6 _ rfl;have z7:=Z2.out.cell 7 _ rfl;have z8:=Z2.out.cell 8 _ rfl;have fz:=fun j hj=>Z2.out.free j hj;have f0:=fz 0 (by decide);have f1:=fz 1 (by decide);have f2:=fz 2 (by decide);have f3:=fz 3 (by decide);have f4:=fz 4 (by decide);have f5:=fz 5 (by decide);have f6:=fz 6 (by decide);have f7:=fz 7 (by decide);have f8:=fz 8 (by decide);have hix:=fun W=>aB (T:=71) (E:=27) (sz:=9) (c:=c) (A:=some ⟨g,0,none⟩) (off:=0) (b:=g) (n:=1) (k:=0) Tryz.underlying71 rfl Tryz.sizeOf27 rfl (by omega) W;simp only[Nat.zero_mul,Nat.zero_add] at hix;clear ha ho hb hl cells fz hex hfr hg1;go_wp2_with fail;have L3:Hid (Below w.heap.size w w2):=aq L0.out L2.out;have ZF:ax (((((((((w2.setCell ⟨w.heap.size+1,0,none⟩ (.string q.nm)).setCell ⟨w.heap.size+1,1,none⟩ (.string q.ver)).setCell ⟨w.heap.size+1,2,none⟩ (.string q.ar)).setCell ⟨w.heap.size+1,3,none⟩ (.string q.sm)).setCell ⟨w.heap.size+1,4,none⟩ (.slice q.na q.needs.length q.nc)).setCell ⟨w.heap.size+1,5,none⟩ (.slice q.ba q.bars.length q.bc)).setCell ⟨w.heap.size+1,6,none⟩ (.slice q.ga q.gives.length q.gc)).setCell ⟨w.heap.size+1,7,none⟩ (.slice q.fa q.files.length q.fc)).setCell ⟨w.heap.size+1,8,none⟩ (.slice q.sa q.scripts.length q.sc)) (w.heap.size+1) q.cells:=(((((((((Z2.out.set 0 (by simp[bg]) (.string q.nm)).set 1 (by simp[bg]) (.string q.ver)).set 2 (by simp[bg]) (.string q.ar)).set 3 (by simp[bg]) (.string q.sm)).set 4 (by simp[bg]) (.slice q.na q.needs.length q.nc)).set 5 (by simp[bg]) (.slice q.ba q.bars.length q.bc)).set 6 (by simp[bg]) (.slice q.ga q.gives.length q.gc)).set 7 (by simp[bg]) (.slice q.fa q.files.length q.fc)).set 8 (by simp[bg]) (.slice q.sa q.scripts.length q.sc))
 have LF:Below w.heap.size w (((((((((w2.setCell ⟨w.heap.size+1,0,none⟩ (.string q.nm)).setCell ⟨w.heap.size+1,1,none⟩ (.string q.ver)).setCell ⟨w.heap.size+1,2,none⟩ (.string q.ar)).setCell ⟨w.heap.size+1,3,none⟩ (.string q.sm)).setCell ⟨w.heap.size+1,4,none⟩ (.slice q.na q.needs.length q.nc)).setCell ⟨w.heap.size+1,5,none⟩ (.slice q.ba q.bars.length q.bc)).setCell ⟨w.heap.size+1,6,none⟩ (.slice q.ga q.gives.length q.gc)).setCell ⟨w.heap.size+1,7,none⟩ (.slice q.fa q.files.length q.fc)).setCell ⟨w.heap.size+1,8,none⟩ (.slice q.sa q.scripts.length q.sc)):=(ai (ai (ai (ai (ai (ai (ai (ai (ai L3.out (by omega) _) (by omega) _) (by omega) _) (by omega) _) (by omega) _) (by omega) _) (by omega) _) (by omega) _) (by omega) _)
 have PF:gj q (((((((((w2.setCell ⟨w.heap.size+1,0,none⟩ (.string q.nm)).setCell ⟨w.heap.size+1,1,none⟩ (.string q.ver)).setCell ⟨w.heap.size+1,2,none⟩ (.string q.ar)).setCell ⟨w.heap.size+1,3,none⟩ (.string q.sm)).setCell ⟨w.heap.size+1,4,none⟩ (.slice q.na q.needs.length q.nc)).setCell ⟨w.heap.size+1,5,none⟩ (.slice q.ba q.bars.length q.bc)).setCell ⟨w.heap.size+1,6,none⟩ (.slice q.ga q.gives.length q.gc)).setCell ⟨w.heap.size+1,7,none⟩ (.slice q.fa q.files.length q.fc)).setCell ⟨w.heap.size+1,8,none⟩ (.slice q.sa q.scripts.length q.sc)) (w.heap.size+1+1):=PO.out.kept (Nat.lt_succ_self _) (ap (ap (ap (ap (ap (ap (ap (ap (ap (World.grownBy.refl w2 (some (w.heap.size+1))) (p:=⟨w.heap.size+1,0,none⟩) (.inl rfl) (.string q.nm)) (p:=⟨w.heap.size+1,1,none⟩) (.inl rfl) (.string q.ver)) (p:=⟨w.heap.size+1,2,none⟩) (.inl rfl) (.string q.ar)) (p:=⟨w.heap.size+1,3,none⟩) (.inl rfl) (.string q.sm)) (p:=⟨w.heap.size+1,4,none⟩) (.inl rfl) (.slice q.na q.needs.length q.nc)) (p:=⟨w.heap.size+1,5,none⟩) (.inl rfl) (.slice q.ba q.bars.length q.bc)) (p:=⟨w.heap.size+1,6,none⟩) (.inl rfl) (.slice q.ga q.gives.length q.gc)) (p:=⟨w.heap.size+1,7,none⟩) (.inl rfl) (.slice q.fa q.files.length q.fc)) (p:=⟨w.heap.size+1,8,none⟩) (.inl rfl) (.slice q.sa q.scripts.length q.sc));generalize (((((((((w2.setCell ⟨w.heap.size+1,0,none⟩ (.string q.nm)).setCell ⟨w.heap.size+1,1,none⟩ (.string q.ver)).setCell ⟨w.heap.size+1,2,none⟩ (.string q.ar)).setCell ⟨w.heap.size+1,3,none⟩ (.string q.sm)).setCell ⟨w.heap.size+1,4,none⟩ (.slice q.na q.needs.length q.nc)).setCell ⟨w.heap.size+1,5,none⟩ (.slice q.ba q.bars.length q.bc)).setCell ⟨w.heap.size+1,6,none⟩ (.slice q.ga q.gives.length q.gc)).setCell ⟨w.heap.size+1,7,none⟩ (.slice q.fa q.files.length q.fc)).setCell ⟨w.heap.size+1,8,none⟩ (.slice q.sa q.scripts.length q.sc))=WF at *;have v0:=ZF.cell 0 _ rfl;have v1:=ZF.cell 1 _ rfl;have v2:=ZF.cell 2 _ rfl;have v3:=ZF.cell 3 _ rfl;have v4:=ZF.cell 4 _ rfl;have v5:=ZF.cell 5 _ rfl;have v6:=ZF.cell 6 _ rfl;have v7:=ZF.cell 7 _ rfl;have v8:=ZF.cell 8 _ rfl;refine bodyPost_ret (v:=q.val) (by simp(maxDischargeDepth:=12) [results,Tryz.results19,go_sem,bK.val,v0,v1,v2,v3,v4,v5,v6,v7,v8]) rfl ⟨q,rfl,AL.out,PF,LF⟩
theorem ax.grownO {vs:LV}{row:Option Nat}(h:ax wr c vs)(hg:wr.grownBy w' row)(hne:row≠some c):ax w' c vs:=by
 have hb:w'.heap[c]?=wr.heap[c]?:=hg.block c h.sz (fun e=>hne e.symm);exact⟨Nat.lt_of_lt_of_le h.sz hg.size,fun j u hu=>(World.cell?_of_block hb).trans (h.cell j u hu),fun j hj=>by
  have:=h.free j hj;rw[World.frozen?_of_block (a:=⟨c,j,none⟩) hb];exact this⟩
theorem jO {B':Nat}{e':TypeId}{s s' n':Nat}{v':Value}{xs':LV}(h:w.ownsRow B e s v n xs)(h':w.ownsRow B' e' s' v' n' xs')(hne:e≠e'):v.ownBlock=none\/v.ownBlock≠v'.ownBlock:=by
 cases hg:v.ownBlock with
 | none=>exact .inl rfl
 | some g=>
  refine .inr fun hg'=>?_;rcases h.2 with⟨rfl,_⟩ | ⟨g1,cap,cur,rfl,_,h1,_⟩
  ·cases hg
  ·rcases h'.2 with⟨rfl,_⟩ | ⟨g2,cap',cur',rfl,_,h2,_⟩
   ·cases hg'
   ·injection hg with hg;injection hg' with hg';have e1:g1=g:=hg;have e2:g=g2:=hg';rw[e1] at h1;rw[<-e2,h1] at h2;injection h2 with h2;injection h2 with _ h3 _;exact hne h3
structure Q4 (q:bK) (w:World) (lo hi:Nat):Prop where
 nd:w.ownsRow lo 9 1 (.slice q.na q.needs.length q.nc) q.needs.length (ay q.needs)
 br:w.ownsRow lo 9 1 (.slice q.ba q.bars.length q.bc) q.bars.length (ay q.bars)
 gv:w.ownsRow lo 81 3 (.slice q.ga q.gives.length q.gc) q.gives.length (q.gives.flatMap cS.cells)
 sp:w.ownsRow lo 44 2 (.slice q.sa q.scripts.length q.sc) q.scripts.length (q.scripts.flatMap aT.cells)
 nl:∀ g,(Value.slice q.na q.needs.length q.nc).ownBlock=some g->g<hi
 bl:∀ g,(Value.slice q.ba q.bars.length q.bc).ownBlock=some g->g<hi
 gl:∀ g,(Value.slice q.ga q.gives.length q.gc).ownBlock=some g->g<hi
 sl:∀ g,(Value.slice q.sa q.scripts.length q.sc).ownBlock=some g->g<hi
theorem Q4.of {q:bK}(h:gj q w lo):Q4 q w lo w.heap.size:=
 ⟨h.needs,h.bars,h.gives,h.scripts,fun g hg=>(h.needs.lt g hg).2,fun g hg=>(h.bars.lt g hg).2,fun g hg=>(h.gives.lt g hg).2,fun g hg=>(h.scripts.lt g hg).2⟩
theorem Q4.below {q:bK}(h:Q4 q w lo hi)(hb:Below w.heap.size w w'):Q4 q w' lo hi:=⟨aL h.1 hb,aL h.2 hb,aL h.3 hb,aL h.4 hb,h.5,h.6,h.7,h.8⟩
theorem Q4.kept {q:bK}(h:Q4 q w lo hi)(hg:w.grownBy w' (some c))(hc:hi<=c):Q4 q w' lo hi:=by
 have k:∀ {v:Value},(∀ g,v.ownBlock=some g->g<hi)->v.ownBlock=none\/v.ownBlock≠some c:=fun {v} hv=>by
  cases hb:v.ownBlock with
  | none=>exact .inl rfl
  | some g=>right;intro e;injection e with e;have:=hv g hb;omega
 exact⟨h.1.kept hg (k h.5),h.2.kept hg (k h.6),h.3.kept hg (k h.7),h.4.kept hg (k h.8),h.5,h.6,h.7,h.8⟩
theorem Q4.app {q:bK}(h:Q4 q w lo hi)(hf:w.ownsRow B 56 8 v n xs)(hg:w.grownBy w' v.ownBlock):Q4 q w' lo hi:=
 ⟨h.1.kept hg (jO h.1 hf (by decide)),h.2.kept hg (jO h.2 hf (by decide)),h.3.kept hg (jO h.3 hf (by decide)),h.4.kept hg (jO h.4 hf (by decide)),h.5,h.6,h.7,h.8⟩
theorem Q4.low {q:bK}(h:Q4 q w lo hi)(hg:w.grownBy w' (some c))(hc:c<lo):Q4 q w' lo hi:=⟨aP h.1 hc hg,aP h.2 hc hg,aP h.3 hc hg,aP h.4 hc hg,h.5,h.6,h.7,h.8⟩
def tE (q:bK)(v:Value):LV:=[.string q.nm,.string q.ver,.string q.ar,.string q.sm,.slice q.na q.needs.length q.nc,.slice q.ba q.bars.length q.bc,.slice q.ga q.gives.length q.gc,v,.slice q.sa q.scripts.length q.sc]
structure Hu (w wr:World) (b:dH) (q:bK) (kb:Nat) (v:Value) (fs ms:List av):Prop where
 bu:ax wr w.heap.size b.cells
 r1:ax wr (w.heap.size+1) bg
 r2:ax wr (w.heap.size+1+1) [.string ⟨#[]⟩,.string ⟨#[]⟩,.int .i64 0]
 kv:ax wr kb (tE q v)
 q4:Q4 q wr (w.heap.size+3) kb
 fr:wr.ownsRow (w.heap.size+3) 56 8 v fs.length (fs.flatMap av.cells)
 sm:bm wr (kb+1) ms.length (Rl ms)
 f1:v.ownBlock≠some kb
 f2:v.ownBlock≠some (kb+1)
 bel:Below w.heap.size w wr
 lo:w.heap.size+3<=kb
theorem Hu.grow {wx:World}{b:dH}{q:bK}{fs ms:List av}(h:Hu w wr b q kb v fs ms)(hb:Below wr.heap.size wr wx):Hu w wx b q kb v fs ms:=
 ⟨h.bu.below hb,h.r1.below hb,h.r2.below hb,h.kv.below hb,h.q4.below hb,aL h.fr hb,h.sm.below hb,h.f1,h.f2,aq h.bel hb,h.lo⟩
theorem Hu.mapped {b:dH}{q:bK}{fs ms:List av}{x:av}(h:Hu w wr b q kb v fs ms)(hm:bm w' (kb+1) (ms.length+1) (fun s=>if s=x.path then some (Dd x) else Rl ms s))(hg:wr.grownBy w' (some (kb+1))):Hu w w' b q kb v fs (ms++[x]):=by
 have hlo:=h.lo;refine⟨h.bu.grownC hg (by omega),h.r1.grownC hg (by omega),h.r2.grownC hg (by omega),h.kv.grownC hg (by omega),h.q4.kept hg (by omega),h.fr.kept hg (.inr h.f2),?_,h.f1,h.f2,h.bel.grown hg h.bel.size (fun j hj=>by injection hj with hj;omega),hlo⟩;rw[Nf,List.length_append];exact hm
theorem Hu.app {wa w1:World}{b:dH}{q:bK}{v1:Value}{fs ms:List av}{x:av}(h:Hu w wa b q kb v fs ms)(o1:w1.ownsRow (w.heap.size+3) 56 8 v1 (fs.length+1) (fs.flatMap av.cells++x.cells))(g1:wa.grownBy w1 v.ownBlock)(a1:v1.ownBlock=v.ownBlock\/v1.ownBlock=some wa.heap.size):
  Hu w (w1.setCell ⟨kb,7,none⟩ v1) b q kb v1 (fs++[x]) ms:=by
 have hlo:=h.lo;have hkb:=h.kv.sz;have hsm:=h.sm.lt;have low:∀ c,c<w.heap.size+3->v.ownBlock≠some c:=fun c hc e=>by have:=(h.fr.lt c e).1;omega
 have n1:v1.ownBlock≠some kb:=fun e=>by
  rcases a1 with a | a
  ·rw[a] at e;exact h.f1 e
  ·rw[a] at e;injection e with e;omega
 have n2:v1.ownBlock≠some (kb+1):=fun e=>by
  rcases a1 with a | a
  ·rw[a] at e;exact h.f2 e
  ·rw[a] at e;injection e with e;omega
 have gs:=ap (World.grownBy.refl w1 (some kb)) (p:=⟨kb,7,none⟩) (.inl rfl) v1;have bx:Below w.heap.size w w1:=h.bel.grown g1 h.bel.size (fun j hj=>by have:=(h.fr.lt j hj).1;omega);refine⟨(h.bu.grownO g1 (low _ (by omega))).far (by omega) _,(h.r1.grownO g1 (low _ (by omega))).far (by omega) _,(h.r2.grownO g1 (low _ (by omega))).far (by omega) _,(h.kv.grownO g1 h.f1).set 7 (by show 7<9;decide) v1,(h.q4.app h.fr g1).kept gs lr,?_,(h.sm.kept g1 (fun e=>h.f2 e.symm)).kept gs (by intro e;injection e with e;omega),n1,n2,ai bx (by omega) _,hlo⟩;have:=o1.kept gs (.inr n1);rw[List.length_append,List.flatMap_append];simpa using this
def St (l:List ag)(w:World)(e:Ending)(w':World):Prop:=
 ∃ (A:OA)(c:Nat)(m:List ag),e=.returned (.slice A l.length c)/\m.length=l.length/\(∀ (i:Nat)(x y:ag),l[i]?=some x->m[i]?=some y->x.same y) /\
  w'.ownsRow w.heap.size 35 10 (.slice A l.length c) l.length (m.flatMap ag.cells)/\(∀ y∈m,y.own w' w.heap.size)/\Below w.heap.size w w'
theorem qu {x:ag}{s:Nat}{A:OA}(h:x.own w lo)(hr:w.ownsRow B e s (.slice A n c) n xs)(hA:A=some ⟨g,0,none⟩)(hne:5≠e)(u:Value):x.own (w.setCell ⟨g,j,none⟩ u) lo:=by
 subst hA;have hk:=jO h hr hne;exact h.kept (ap (World.grownBy.refl w (some g)) (p:=⟨g,j,none⟩) (.inl rfl) u) hk
theorem Gp (A:OA)(c:Nat)(l:List ag)(w:World)(hE:cV w A l)(hl:l.length<=100000)(hs:∀ x∈l,x.small):Calls Tryz.prog 61 #[.slice A l.length c] w (St l w):=by
 have HE:=ae hE;have HS:=ae hs;clear hE hs;go_in;go_wp2_with fail;refine(Km A c l _ HE.out.row hl).mono ?_;rintro e w1 ⟨v,rfl,hown,hb1⟩;obtain⟨A0,c0,rfl⟩:=aN hown;have HO:=ae hown;have HB:=ae hb1;clear hown hb1;by_cases hz:l=[]
 ·subst hz;go_wp2_with fail;refine wp_loop_rounds 1 ?_;rw[rounds_succ];go_wp2;go_ret;exact⟨A0,c0,[],rfl,rfl,(fun i x y h=>by simp at h),HO.out,(fun y hy=>by simp at hy),HB.out⟩
 have hpos:0<l.length:=List.length_pos_iff.2 hz;obtain⟨g,hA0,hg1,hg2,_,_⟩:=iR HO.out hpos;subst hA0;clear hz;go_wp2;go_loopw [9] (fun i wr=>∃ (k:Nat)(qs:List ag),k<=l.length/\i=.int .i64 k/\Hid (qs.length=k/\(∀ (i:Nat)(x y:ag),l[i]?=some x->qs[i]?=some y->x.same y))/\Hid (wr.ownsRow w.heap.size 35 10 (.slice (some ⟨g,0,none⟩) l.length c0) l.length ((qs++l.drop k).flatMap ag.cells))/\Hid (∀ y∈qs,y.own wr w.heap.size)/\Hid (Below w.heap.size w wr)) (fun i _=>l.length-(intOf i).toNat)
 case atStart=>exact⟨0,[],z0,rfl,⟨rfl,fun i x y _ h=>by simp at h⟩,by simpa [Hid] using HO.out,(fun y hy=>by simp at hy),HB⟩
 case round=>
  obtain⟨k,qs,hk,rfl,HQ,HR,HD,HBR⟩:=hrel;by_cases hlt:k<l.length
  case neg=>
   obtain rfl:k=l.length:=by omega
   have HF:Hid (wr.ownsRow w.heap.size 35 10 (.slice (some ⟨g,0,none⟩) l.length c0) l.length (qs.flatMap ag.cells)):=by show World.ownsRow _ _ _ _ _ _ _;have h:=HR.out;simpa using h
   go_wp2;go_ret;exact⟨_,c0,qs,rfl,HQ.out.1,HQ.out.2,HF.out,HD.out,HBR.out⟩
  obtain⟨x,hx⟩:∃ x,l[k]?=some x:=⟨_,gG hlt⟩
  have hdrop:l.drop k=x::l.drop (k+1):=by rw[List.drop_eq_getElem_cons hlt];congr 1;exact(gS hx).2
  have hixA:=fun W=>aB (T:=28) (E:=35) (sz:=10) (c:=c0) (A:=some ⟨g,0,none⟩) (b:=g) (off:=0) Tryz.underlying28 rfl Tryz.sizeOf35 rfl hlt W;simp only[Nat.zero_add] at hixA;have HRg:Hid (wr.ownsRow w.heap.size 35 10 (.slice (some ⟨g,0,none⟩) l.length c0) l.length ((qs++x::l.drop (k+1)).flatMap ag.cells)):=by have h:=HR.out;rw[hdrop] at h;exact h
  have e9:wr.cell? ⟨g,k*10+9,none⟩=some (.slice x.da x.data.length x.dc):=by
   rw[HRg.out.cellAt (k*10+9) (by omega)];exact ft bi (qs++x::l.drop (k+1)) k 9 x (by rw[List.getElem?_append_right (by rw[HQ.out.1];exact Nat.le_refl _),HQ.out.1];simp) (by omega)
  have DX:Hid (Rd wr 1 x.da x.data.length (x.data.map vb)):=(HE.out.all x (gM hx)).below HBR.out;have hxd:=(HS.out x (gM hx)).data;have HX:=ae hx;clear hx hdrop;go_wp2_with fail;refine(sf x.da x.dc x.data.length x.data _ DX.out (by omega)).mono ?_;rintro e w2 ⟨v2,rfl,o2,b2⟩;obtain⟨a2,c2,rfl⟩:=aN o2;have R2:=ae (aL HRg.out b2);have y9:w2.cell? ⟨g,k*10+9,none⟩=some (.slice x.da x.data.length x.dc):=by
   rw[R2.out.cellAt (k*10+9) (by omega)];exact ft bi (qs++x::l.drop (k+1)) k 9 x (by rw[List.getElem?_append_right (by rw[HQ.out.1];exact Nat.le_refl _),HQ.out.1];simp) (by omega)
  have f9:=R2.out.frozenAt (k*10+9);have hg3:w.heap.size<=g:=hg1;have X2:Hid (ag.own { x with da:=a2,dc:=c2 } w2 w.heap.size):=aY o2 HBR.out.size;have D2:Hid (∀ y∈qs,y.own w2 w.heap.size):=fun y hy=>aL (HD.out y hy) b2;have L2:=ae (aq HBR.out b2);have N3:Hid ((w2.setCell ⟨g,k*10+9,none⟩ (.slice a2 x.data.length c2)).ownsRow w.heap.size 35 10 (.slice (some ⟨g,0,none⟩) l.length c0) l.length ((qs++[{ x with da:=a2,dc:=c2 }]++l.drop (k+1)).flatMap ag.cells)):=by
   show World.ownsRow _ _ _ _ _ _ _;have h:=(R2.out.stored (k*10+9) (.slice a2 x.data.length c2)).1;rw[rx bi qs (l.drop (k+1)) x { x with da:=a2,dc:=c2 } k 9 _ HQ.out.1 (by omega) rfl] at h;simpa using h
  have D3:Hid (∀ y∈qs++[{ x with da:=a2,dc:=c2 }],y.own (w2.setCell ⟨g,k*10+9,none⟩ (.slice a2 x.data.length c2)) w.heap.size):=by
   intro y hy;rcases List.mem_append.1 hy with hy | hy
   ·exact qu (D2.out y hy) R2.out rfl (by decide) _
   ·rw[List.mem_singleton.1 hy];exact qu X2.out R2.out rfl (by decide) _
  have L3:Hid (Below w.heap.size w (w2.setCell ⟨g,k*10+9,none⟩ (.slice a2 x.data.length c2))):=ai L2.out hg3 _;have Q3:Hid ((qs++[{ x with da:=a2,dc:=c2 }]).length=k+1/\(∀ (i:Nat)(x' y:ag),l[i]?=some x'->(qs++[{ x with da:=a2,dc:=c2 }])[i]?=some y->x'.same y)):=by
   refine⟨by simp[HQ.out.1],fun i x' y hi hy=>?_⟩;by_cases h:i<k
   ·rw[List.getElem?_append_left (by rw[HQ.out.1];exact h)] at hy;exact HQ.out.2 i x' y hi hy
   ·have hik:i=k:=by
     have:=(gS hy).1;simp[HQ.out.1] at this;omega
    subst hik;rw[List.getElem?_append_right (by rw[HQ.out.1];exact Nat.le_refl _),HQ.out.1] at hy;simp at hy;rw[HX.out] at hi;injection hi with hi;subst hi;subst hy;exact⟨rfl,rfl,rfl,rfl,rfl,rfl,rfl,rfl,rfl,rfl⟩
  clear o2 b2 e9;go_wp2;go_roundw
  case rel=>exact⟨k+1,qs++[{ x with da:=a2,dc:=c2 }],by omega,by go_num,Q3,N3,D3,L3⟩
  case measure=>simp[intOf];omega
def iq (x:ag):Bool:=decide (x.kind=1\/x.kind=4)
def grp (x:ag):BA:=if x.kind=4 then x.link else x.path
def du (l:List ag)(i:Nat):BA:=((l[i]?).map ag.path).getD ⟨#[]⟩
def Dl (l:List ag)(x:ag):Option Nat->Bool
 | none=>true
 | some i=>decide (bl x.path<bl (du l i))
def dK (l:List ag):Nat->BA->Option Nat
 | 0,_=>none
 | k+1,s=>match l[k]? with
  | none=>dK l k s
  | some x=>if iq x=true/\grp x=s/\Dl l x (dK l k s)=true then some k else dK l k s
def mB (l:List ag):Nat->BA->Option Nat
 | 0,_=>none
 | k+1,s=>match l[k]? with
  | none=>mB l k s
  | some x=>if x.kind=1/\x.path=s then some k else mB l k s
theorem nT (l:List ag):∀ (k:Nat)(s:BA)(i:Nat),dK l k s=some i->i<k
 | 0,_,_,h=>by cases h
 | k+1,s,i,h=>by
  unfold dK at h;split at h
  ·have:=nT l k s i h;omega
  ·split at h
   ·injection h with h;omega
   ·have:=nT l k s i h;omega
theorem vX (l:List ag):∀ (k:Nat)(s:BA)(i:Nat),mB l k s=some i->i<k
 | 0,_,_,h=>by cases h
 | k+1,s,i,h=>by
  unfold mB at h;split at h
  ·have:=vX l k s i h;omega
  ·split at h
   ·injection h with h;omega
   ·have:=vX l k s i h;omega
def wH (l:List ag)(k:Nat)(s:BA):Option Value:=(dK l k s).map fun i:Nat=>.int .i64 (i:Int)
def DK (l:List ag)(k:Nat)(s:BA):Option Value:=(mB l k s).map fun i:Nat=>.int .i64 (i:Int)
theorem Py {l:List ag}{x:ag}(h:l[k]?=some x)(hg:iq x=false):wH l (k+1)=wH l k:=by
 funext s;unfold wH;rw[dK,h];simp[hg]
theorem Hw {l:List ag}{x:ag}(h:l[k]?=some x)(hg:¬ x.kind=1):DK l (k+1)=DK l k:=by
 funext s;unfold DK;rw[mB,h];simp[hg]
theorem Pz {l:List ag}{x:ag}(h:l[k]?=some x)(hg:x.kind=1):DK l (k+1)=fun s=>if s=x.path then some (.int .i64 k) else DK l k s:=by
 funext s;unfold DK;rw[mB,h]
 by_cases e:s=x.path
 ·subst e;simp[hg]
 ·simp[hg,e,show ¬ x.path=s from fun e'=>e e'.symm]
theorem PB {l:List ag}{x:ag}(h:l[k]?=some x)(hg:iq x=true)(hl:Dl l x (dK l k (grp x))=true):wH l (k+1)=fun s=>if s=grp x then some (.int .i64 k) else wH l k s:=by
 funext s;unfold wH;rw[dK,h]
 by_cases e:s=grp x
 ·subst e;simp[hg,hl]
 ·simp[hg,e,show ¬ grp x=s from fun e'=>e e'.symm]
theorem Nv {l:List ag}{x:ag}(h:l[k]?=some x)(hl:Dl l x (dK l k (grp x))=false):wH l (k+1)=wH l k:=by
 funext s;unfold wH;rw[dK,h]
 by_cases e:s=grp x
 ·subst e;simp[hl]
 ·simp[show ¬ grp x=s from fun e'=>e e'.symm]
def bH (l:List ag)(x:ag):Nat:=(dK l l.length (grp x)).getD 0
def cJ (l:List ag)(x:ag):Nat:=(mB l l.length (grp x)).getD 0
def fN (l:List ag)(i:Nat):LU:=((l[i]?).map ag.data).getD []
def db (l:List ag)(i:Nat)(x:ag):ag:=
 if iq x=true then (if i=bH l x then { x with kind:=1,link:=⟨#[]⟩,data:=fN l (cJ l x) } else { x with kind:=4,link:=du l (bH l x),data:=[] }) else x
theorem Kp {l:List ag}{x:ag}(h:0<l.length):bH l x<l.length:=by
 unfold bH;cases e:dK l l.length (grp x) with
 | none=>exact h
 | some i=>exact nT l _ _ _ e
theorem Kq {l:List ag}{x:ag}(h:0<l.length):cJ l x<l.length:=by
 unfold cJ;cases e:mB l l.length (grp x) with
 | none=>exact h
 | some i=>exact vX l _ _ _ e
theorem Kr (l:List ag)(x:ag):(wH l l.length (grp x)).getD (.int .i64 0)=.int .i64 (bH l x:Nat):=by
 unfold wH bH;cases dK l l.length (grp x)<;>rfl
theorem Nw (l:List ag)(x:ag):(DK l l.length (grp x)).getD (.int .i64 0)=.int .i64 (cJ l x:Nat):=by
 unfold DK cJ;cases mB l l.length (grp x)<;>rfl
theorem Dm {x:ag}(h:x.small):(grp x).size<=1000000:=by unfold grp;split;exact h.link;exact h.path
def Hx (l:List ag)(w:World)(e:Ending)(w':World):Prop:=
 Below w.heap.size w w'/\(((nF l).2≠0/\e=.returned (.tuple #[.slice none 0 0,.int .i64 (nF l).2])) \/
 ((nF l).2=0/\∃ (A:OA)(c:Nat)(m0 m:List ag),e=.returned (.tuple #[.slice A l.length c,.int .i64 0])/\m0.length=l.length/\(∀ (i:Nat)(x y:ag),l[i]?=some x->m0[i]?=some y->(db l i x).same y) /\
   m.Perm m0/\m.Pairwise (fun x y=>¬ bl y.path<bl x.path)/\w'.ownsRow w.heap.size 35 10 (.slice A l.length c) l.length (m.flatMap ag.cells)/\∀ y∈m,y.own w' w.heap.size))
theorem Gq (x:ag)(w:World):Calls Tryz.prog 62 #[x.val] w fun e w'=>e=.returned (.string (grp x))/\Below w.heap.size w w':=by
 by_cases hk:x.kind=4
 ·have q:(x.kind==4)=true:=by simpa using hk
  have G:Hid (grp x=x.link):=by show _=_;unfold grp;rw[if_pos hk]
  clear hk;unfold ag.val;go_in;go_wp2;go_ret;exact⟨by rw[G.out];rfl,bR.alloc lr _⟩
 ·have q:(x.kind==4)=false:=by simpa using hk
  have G:Hid (grp x=x.path):=by show _=_;unfold grp;rw[if_neg hk]
  clear hk;unfold ag.val;go_in;go_wp2;go_ret;exact⟨by rw[G.out];rfl,bR.alloc lr _⟩
structure Nx (w wr:World) (lo mb n1 n2:Nat) (l:List ag) (Ao:OA) (co k:Nat) (qs:List ag) (y:ag) (rs:List ag):Prop where
 ql:qs.length=k
 rl:k+1+rs.length=l.length
 qsame:∀ (i:Nat)(a b:ag),l[i]?=some a->qs[i]?=some b->(db l i a).same b
 rsame:∀ (i:Nat)(a b:ag),l[k+1+i]?=some a->rs[i]?=some b->a.same b
 row:wr.ownsRow lo 35 10 (.slice Ao l.length co) l.length ((qs++y::rs).flatMap ag.cells)
 own:∀ z∈qs++y::rs,z.own wr lo
 m1:bm wr mb n1 (wH l l.length)
 m2:bm wr (mb+1) n2 (DK l l.length)
 bel:Below w.heap.size w wr
 lo:w.heap.size<=lo
 hi:∀ g,(Value.slice Ao l.length co).ownBlock=some g->g<mb
structure RP (w wr:World) (lo mb n1 n2:Nat) (l:List ag) (Ao:OA) (co k:Nat) (qs rs:List ag):Prop where
 ql:qs.length=k
 rl:k+rs.length=l.length
 qsame:∀ (i:Nat)(a b:ag),l[i]?=some a->qs[i]?=some b->(db l i a).same b
 rsame:∀ (i:Nat)(a b:ag),l[k+i]?=some a->rs[i]?=some b->a.same b
 row:wr.ownsRow lo 35 10 (.slice Ao l.length co) l.length ((qs++rs).flatMap ag.cells)
 own:∀ z∈qs++rs,z.own wr lo
 m1:bm wr mb n1 (wH l l.length)
 m2:bm wr (mb+1) n2 (DK l l.length)
 bel:Below w.heap.size w wr
 lo:w.heap.size<=lo
 hi:∀ g,(Value.slice Ao l.length co).ownBlock=some g->g<mb
theorem Nx.below {l:List ag}{qs rs:List ag}{y:ag}(h:Nx w wr lo mb n1 n2 l Ao co k qs y rs)(hb:Below wr.heap.size wr w'):Nx w w' lo mb n1 n2 l Ao co k qs y rs:=
 ⟨h.ql,h.rl,h.qsame,h.rsame,aL h.row hb,fun z hz=>aL (h.own z hz) hb,h.m1.below hb,h.m2.below hb,aq h.bel hb,h.lo,h.hi⟩
theorem RP.next {l:List ag}{qs rs:List ag}(h:RP w wr lo mb n1 n2 l Ao co k qs rs)(hk:k<l.length):∃ y r,rs=y::r/\Nx w wr lo mb n1 n2 l Ao co k qs y r/\∀ x,l[k]?=some x->x.same y:=by
 cases rs with
 | nil=>have:=h.rl;simp at this;omega
 | cons y r=>
  refine⟨y,r,rfl,⟨h.ql,by have:=h.rl;simp at this;omega,h.qsame,fun i a b ha hb=>h.rsame (i+1) a b (by rw[show k+(i+1)=k+1+i by omega];exact ha) (by simpa using hb),h.row,h.own,h.m1,h.m2,h.bel,h.lo,h.hi⟩,fun x hx=>h.rsame 0 x y (by simpa using hx) rfl⟩
theorem Nx.done {l:List ag}{qs rs:List ag}{x y:ag}(h:Nx w wr lo mb n1 n2 l Ao co k qs y rs)(hx:l[k]?=some x)(hs:(db l k x).same y):RP w wr lo mb n1 n2 l Ao co (k+1) (qs++[y]) rs:=by
 refine⟨by simp[h.ql],h.rl,fun i a b ha hb=>?_,h.rsame,by have:=h.row;simpa using this,by have:=h.own;simpa using this,h.m1,h.m2,h.bel,h.lo,h.hi⟩;by_cases hi:i<k
 ·rw[List.getElem?_append_left (by rw[h.ql];exact hi)] at hb;exact h.qsame i a b ha hb
 ·have hik:i=k:=by
   have:=(gS hb).1;simp[h.ql] at this;omega
  subst hik;rw[List.getElem?_append_right (by rw[h.ql];exact Nat.le_refl _),h.ql] at hb;simp at hb;rw[hx] at ha;injection ha with ha;subst ha;subst hb;exact hs
theorem Nx.cell {l:List ag}{qs rs:List ag}{y:ag}(h:Nx w wr lo mb n1 n2 l Ao co k qs y rs)(hA:Ao=some ⟨g,0,none⟩)(j:Nat)(u:Value)(hu:y.cells[j]?=some u):wr.cell? ⟨g,k*10+j,none⟩=some u/\wr.frozen? ⟨g,k*10+j,none⟩=false:=by
 subst hA;have hj:j<10:=by rw[<-bi y];exact(gS hu).1
 have hkl:=h.rl;refine⟨?_,h.row.frozenAt _⟩;rw[h.row.cellAt (k*10+j) (by omega),ft bi (qs++y::rs) k j y (by rw[List.getElem?_append_right (by rw[h.ql];exact Nat.le_refl _),h.ql];simp) hj];exact hu
theorem Nx.set {l:List ag}{qs rs:List ag}{y y':ag}{u:Value}(h:Nx w wr lo mb n1 n2 l Ao co k qs y rs)(hA:Ao=some ⟨g,0,none⟩)(hj:j<10)(hs:y.cells.set j u=y'.cells)(ho:y'.own wr lo):
  Nx w (wr.setCell ⟨g,k*10+j,none⟩ u) lo mb n1 n2 l Ao co k qs y' rs:=by
 have hg:=h.hi g (by subst hA;rfl);have hb:lo<=g:=by have:=h.row.lt g (by subst hA;rfl);exact this.1
 have gs:=ap (World.grownBy.refl wr (some g)) (p:=⟨g,k*10+j,none⟩) (.inl rfl) u;refine⟨h.ql,h.rl,h.qsame,h.rsame,?_,fun z hz=>?_,h.m1.kept gs (by intro e;injection e with e;omega),h.m2.kept gs (by intro e;injection e with e;omega),ai h.bel (by have:=h.lo;omega) _,h.lo,h.hi⟩
 ·have hrow:=h.row;subst hA;have:=(hrow.stored (k*10+j) u).1
  rwa [rx bi qs rs y y' k j u h.ql hj hs] at this
 ·rcases List.mem_append.1 hz with hz | hz
  ·exact qu (h.own z (List.mem_append.2 (.inl hz))) h.row hA (by decide) u
  ·rcases List.mem_cons.1 hz with rfl | hz
   ·exact qu ho h.row hA (by decide) u
   ·exact qu (h.own z (List.mem_append.2 (.inr (List.mem_cons_of_mem _ hz)))) h.row hA (by decide) u
theorem Ny {l:List ag}{x:ag}(h:iq x=false):db l k x=x:=by unfold db;rw[if_neg (by simp[h])]
theorem Gr {l:List ag}{x:ag}(h:iq x=true)(hk:k=bH l x):db l k x={ x with kind:=1,link:=⟨#[]⟩,data:=fN l (cJ l x) }:=by unfold db;rw[if_pos h,if_pos hk]
theorem Ks {l:List ag}{x:ag}(h:iq x=true)(hk:¬ k=bH l x):db l k x={ x with kind:=4,link:=du l (bH l x),data:=[] }:=by unfold db;rw[if_pos h,if_neg hk]
end
section
open Go.RowKit Go.Shelf Go.Lib Go.Sort
theorem xC (s t:BA)(w:World):Calls Tryz.prog 66 #[.string s,.string t] w fun e w'=>e=.returned (.int .i64 (if bl s<bl t then -1 else if bl t<bl s then 1 else 0))/\w=w':=by
 have l1:=dA s.toList t.toList;have l2:=dA t.toList s.toList;rw[aj,aj] at l1 l2;by_cases h:bl s<bl t
 ·rw[if_pos h];rw[<-aj s,<-aj t] at l1;have q:Op.bytesLess s.toList t.toList=true:=by rw[l1,aj,aj];exact dT h
  clear l1 l2 h;go_in;go_wp2_with fail;refine(iS s _).mono ?_;rintro e w' ⟨rfl,rfl⟩;go_wp2_with fail;refine(iS t _).mono ?_;rintro e w' ⟨rfl,rfl⟩;go_wp2;go_ret;exact⟨rfl,rfl⟩
 ·rw[if_neg h];have q:Op.bytesLess s.toList t.toList=false:=by rw[dA,aj,aj];exact dF h
  by_cases h2:bl t<bl s
  ·rw[if_pos h2];have q2:(s.toList==t.toList)=false:=by rw[et];exact dF (fun e=>by rw[e] at h2;exact uM _ h2)
   clear l1 l2 h h2;go_in;go_wp2_with fail;refine(iS s _).mono ?_;rintro e w' ⟨rfl,rfl⟩;go_wp2_with fail;refine(iS t _).mono ?_;rintro e w' ⟨rfl,rfl⟩;go_wp2;go_ret;exact⟨rfl,rfl⟩
  ·rw[if_neg h2];have q2:(s.toList==t.toList)=true:=by
    rw[et];apply dT;by_cases e:s=t
    ·exact e
    ·exact absurd (qW h (fun e'=>e (dC e'))) h2
   clear l1 l2 h h2;go_in;go_wp2_with fail;refine(iS s _).mono ?_;rintro e w' ⟨rfl,rfl⟩;go_wp2_with fail;refine(iS t _).mono ?_;rintro e w' ⟨rfl,rfl⟩;go_wp2;go_ret;exact⟨rfl,rfl⟩
theorem PD (x y:ag)(W:World):Calls Tryz.prog 65 #[.agg x.cells.toArray,.agg y.cells.toArray] W fun e w'=>e=.returned (.int .i64 (Ld ag.path x y))/\∃ q os',w'=grow (W.drewN q) os':=by
 have hS:=fun W=>xC x.path y.path W;have E:Hid ((if bl x.path<bl y.path then (-1:Int) else if bl y.path<bl x.path then 1 else 0)=Ld ag.path x y):=rfl;generalize (if bl x.path<bl y.path then (-1:Int) else if bl y.path<bl x.path then 1 else 0)=r at hS E;unfold ag.cells;go_in;go_wp2_with fail;refine(hS _).mono ?_;rintro e w' ⟨rfl,rfl⟩;go_wp2;go_ret;exact⟨aI E.out,0,_,by rw[alloc_eq_grow,alloc_eq_grow,grow_grow];rfl⟩
instance:Inhabited ag:=⟨⟨⟨#[]⟩,0,0,0,0,⟨#[]⟩,⟨#[]⟩,0,⟨#[]⟩,none,0,[]⟩⟩
theorem Kt (A:OA)(cap base n:Nat)(l:List ag)(hn:Hid (l.length=n))(w:World)(h:w.ownsRow base 35 10 (.slice A n cap) n (l.flatMap ag.cells))(hl:n<=100000):Calls Tryz.prog 64 #[.slice A n cap,.func (.func 65) #[] #[]] w (vW ag.path ag.cells 35 10 base (.slice A n cap) l w):=by
 have e:=hn.out;subst e;by_cases hn:l=[]
 ·subst hn;refine(AnyF.slices_SortFunc_none Tryz.sortEnt A cap _ w).mono ?_;rintro e w' ⟨rfl,rfl⟩;exact⟨rfl,[],.nil,.nil,h,World.grownBy.refl _ _⟩
 ·have hpos:0<l.length:=List.length_pos_iff.2 hn;obtain⟨g,hA,hb,hg,_,_⟩:=iR h hpos;subst hA;have eg:∀ args w,(callFunc 65 args).run Tryz.prog w=.ok (.enter 65 args) w:=enters_of Tryz.func65 (by kernel_rfl) rfl;have hcmp:CmpLays Tryz.prog 65 #[] ag.cells 10 (Ld ag.path) g 0 l.toArray.size w:=fun m os dk _ a b=>PD a b _;have hH:=vU bi h;have hcon:=AnyQ.slices_SortFunc Tryz.sortEnt 10 Tryz.isAgg35 Tryz.sizeOf35 ag.cells bi (fun x v hv=>qt x v hv) (Ld ag.path) (Hv ag.path) 65 #[] g 0 cap l.toArray w eg hcmp hH hg (by simp;omega);refine hcon.mono ?_;rintro e w' ⟨rfl,d',n,os,hp,hs,rfl⟩;have hp':=yO (l:=l) rfl (by simpa using hp);have hd:d'.size=l.length:=by have:=hp'.length_eq;simpa using this
  obtain⟨h1,h2⟩:=Dk bi h d' hd n os;exact⟨rfl,d'.toList,hp',sg hd (by simpa using hs),h1,h2⟩
end
section
open Go.RowKit
theorem cQ {x:ag}:iq x=true↔x.kind=1\/x.kind=4:=by unfold iq;simp
theorem kC {x y:ag}:gh x y=true↔x.mode=y.mode/\x.uid=y.uid/\x.gid=y.gid/\x.owner=y.owner/\x.group=y.group/\x.mtime=y.mtime:=by
 unfold gh;simp only[Bool.and_eq_true,beq_iff_eq,et,decide_eq_true_eq]
theorem lR {l:List ag}(h:dn l){x:ag}(hx:x∈l)(hg:iq x=true):∃ (d:Nat)(f:ag),l[d]?=some f/\f.kind=1/\f.path=grp x/\gh x f=true:=by
 obtain⟨k,hk⟩:=List.getElem?_of_mem hx;rcases cQ.1 hg with h1 | h4
 ·exact⟨k,x,hk,h1,by unfold grp;rw[if_neg (by omega)],kC.2 ⟨rfl,rfl,rfl,rfl,rfl,rfl⟩⟩
 ·obtain⟨i,y,_,hy,hp,hk1,hc⟩:=h.hard k x hk h4;exact⟨i,y,hy,hk1,by unfold grp;rw[if_pos h4];exact hp,hc⟩
theorem Dr {l:List ag}(h:dn l){d:Nat}{f:ag}(hd:l[d]?=some f)(hk:f.kind=1)(hp:f.path=s):∀ k,d<k->mB l k s=some d:=by
 intro k
 induction k with
 | zero=>intro hd';omega
 | succ k ih=>
  intro hdk;unfold mB;by_cases e:d=k
  ·subst e;rw[hd];simp[hk,hp]
  ·cases hl:l[k]? with
   | none=>exact ih (by omega)
   | some x=>
    simp only;rw[if_neg,ih (by omega)];rintro⟨_,hxp⟩;exact e (h.nd d k f x hd hl (hp.trans hxp.symm))
theorem yQ {l:List ag}:∀ (k:Nat)(s:BA),(∀ i,dK l k s=some i->∃ y,i<k/\l[i]?=some y/\iq y=true/\grp y=s/\∀ (j:Nat)(z:ag),j<k->l[j]?=some z->iq z=true->grp z=s->¬ bl z.path<bl y.path) /\
  (dK l k s=none->∀ (j:Nat)(z:ag),j<k->l[j]?=some z->iq z=true->grp z=s->False)
 | 0,s=>⟨fun i h=>(by cases h),fun _ j z hj=>(by omega)⟩
 | k+1,s=>by
  obtain⟨H1,H2⟩:=yQ k s;unfold dK;cases hl:l[k]? with
  | none=>
   refine⟨fun i h=>?_,fun h j z hj hz=>?_⟩
   ·obtain⟨y,a,b,c,d,e⟩:=H1 i h;refine⟨y,by omega,b,c,d,fun j z hj hz=>?_⟩;by_cases ejk:j=k
    ·subst ejk;rw[hl] at hz;cases hz
    ·exact e j z (by omega) hz
   ·by_cases ejk:j=k
    ·subst ejk;rw[hl] at hz;cases hz
    ·exact H2 h j z (by omega) hz
  | some x=>
   simp only;by_cases hc:iq x=true/\grp x=s/\Dl l x (dK l k s)=true
   ·rw[if_pos hc];refine⟨fun i h=>?_,fun h=>by cases h⟩;injection h with h;subst h;refine⟨x,by omega,hl,hc.1,hc.2.1,fun j z hj hz hg hs=>?_⟩;by_cases ejk:j=k
    ·subst ejk;rw[hl] at hz;injection hz with hz;subst hz;exact List.lt_irrefl _
    ·cases hp:dK l k s with
     | none=>exact(H2 hp j z (by omega) hz hg hs).elim
     | some i=>
      obtain⟨y,a,b,c,d,e⟩:=H1 i hp;have h1:=e j z (by omega) hz hg hs;have h2:=hc.2.2;rw[hp] at h2;have h2':decide (bl x.path<bl (du l i))=true:=h2;unfold du at h2';rw[b] at h2';have h3:bl x.path<bl y.path:=by simpa using h2'
      intro h4;exact h1 (List.lt_trans h4 h3)
   ·rw[if_neg hc];have hno:∀ i,dK l k s=some i->∀ y,l[i]?=some y->iq x=true->grp x=s->¬ bl x.path<bl y.path:=fun i hi y hy hg hs h=>hc ⟨hg,hs,by
     rw[hi];show decide (bl x.path<bl (du l i))=true;unfold du;rw[hy];simpa using h⟩
    refine⟨fun i h=>?_,fun h j z hj hz hg hs=>?_⟩
    ·obtain⟨y,a,b,c,d,e⟩:=H1 i h;refine⟨y,by omega,b,c,d,fun j z hj hz hg hs=>?_⟩;by_cases ejk:j=k
     ·subst ejk;rw[hl] at hz;injection hz with hz;subst hz;exact hno i h y b hg hs
     ·exact e j z (by omega) hz hg hs
    ·by_cases ejk:j=k
     ·subst ejk;rw[hl] at hz;injection hz with hz;subst hz;exact hc ⟨hg,hs,by rw[h];rfl⟩
     ·exact H2 h j z (by omega) hz hg hs
theorem kD {l:List ag}{x:ag}(hx:x∈l)(hg:iq x=true):∃ y,l[bH l x]?=some y/\iq y=true/\grp y=grp x/\∀ z∈l,iq z=true->grp z=grp x->¬ bl z.path<bl y.path:=by
 obtain⟨H1,H2⟩:=yQ (l:=l) l.length (grp x);obtain⟨k,hk⟩:=List.getElem?_of_mem hx;have hkl:k<l.length:=(gS hk).1;unfold bH;cases hp:dK l l.length (grp x) with
 | none=>exact(H2 hp k x hkl hk hg rfl).elim
 | some i=>
  obtain⟨y,a,b,c,d,e⟩:=H1 i hp;refine⟨y,b,c,d,fun z hz hgz hs=>?_⟩;obtain⟨j,hj⟩:=List.getElem?_of_mem hz;exact e j z (gS hj).1 hj hgz hs
theorem dB (l:List ag)(i:Nat)(x:ag):(db l i x).path=x.path:=by unfold db;split;split;rfl;rfl;rfl
theorem nx (l:List ag)(i:Nat)(x:ag):(db l i x).mode=x.mode/\(db l i x).uid=x.uid/\(db l i x).gid=x.gid/\(db l i x).owner=x.owner/\(db l i x).group=x.group/\(db l i x).mtime=x.mtime:=by
 unfold db;split;split;all_goals exact⟨rfl,rfl,rfl,rfl,rfl,rfl⟩
theorem jP {l:List ag}{x:ag}(h:iq x=false):db l i x=x:=by unfold db;rw[if_neg (by rw[h];simp)]
structure vY (x:ag):Prop where
 path:cR (bl x.path)=true
 kind:1<=x.kind/\x.kind<=4
 num:fE x=false
 own:lu x.owner=true/\lu x.group=true
 targ:x.kind=3->jT x.link=true
 hard:x.kind=4->cR (bl x.link)=true/\x.link≠x.path
 nol:x.kind≠3->x.kind≠4->x.link.size=0
 nod:x.kind≠1->x.data.length=0
 dat:x.data.length<=1048576
theorem fO {x:ag}:dE x=0↔vY x:=by
 constructor
 ·intro h;unfold dE at h;split at h
  ·contradiction
  rename_i h1;split at h
  ·contradiction
  rename_i h2;split at h
  ·contradiction
  rename_i h3;split at h
  ·contradiction
  rename_i h4;split at h
  ·contradiction
  rename_i h5;split at h
  ·contradiction
  rename_i h6;split at h
  ·contradiction
  rename_i h7;split at h
  ·contradiction
  rename_i h8;split at h
  ·contradiction
  rename_i h9;refine⟨by simpa using h1,by omega,by simpa using h3,⟨?_,?_⟩,fun k=>?_,fun k=>⟨?_,?_⟩,fun a b=>?_,fun k=>by omega,by omega⟩
  ·cases e:lu x.owner with
   | true=>rfl
   | false=>exact absurd (.inl e) h4
  ·cases e:lu x.group with
   | true=>rfl
   | false=>exact absurd (.inr e) h4
  ·cases e:jT x.link with
   | true=>rfl
   | false=>exact absurd ⟨k,e⟩ h5
  ·cases e:cR (bl x.link) with
   | true=>rfl
   | false=>exact absurd ⟨k,.inl e⟩ h6
  ·intro e;exact h6 ⟨k,.inr e⟩
  ·by_cases e:x.link.size=0
   ·exact e
   ·exact absurd ⟨a,b,e⟩ h7
 ·intro h;unfold dE;rw[if_neg (by rw[h.path];simp),if_neg (by have:=h.kind;omega),if_neg (by rw[h.num];simp),if_neg (by rw[h.own.1,h.own.2];simp),if_neg (fun e=>by rw[h.targ e.1] at e;simp at e),if_neg (fun e=>by
   rcases e.2 with k | k
   ·rw[(h.hard e.1).1] at k;cases k
   ·exact(h.hard e.1).2 k),if_neg (fun e=>e.2.2 (h.nol e.1 e.2.1)),if_neg (fun e=>by have:=h.nod e.1;omega),if_neg (by have:=h.dat;omega)]
theorem vY.same {x y:ag}(h:vY x)(hs:x.same y):vY y:=by
 obtain⟨e1,e2,e3,e4,e5,e6,e7,e8,e9,e10⟩:=hs;have hn:fE y=fE x:=by unfold fE;rw[e3,e4,e5,e8]
 refine⟨e1 ▸ h.path,e2 ▸ h.kind,hn ▸ h.num,⟨e6 ▸ h.own.1,e7 ▸ h.own.2⟩,?_,?_,?_,?_,e10 ▸ h.dat⟩
 ·rw[<-e2,<-e9];exact h.targ
 ·rw[<-e2,<-e9,<-e1];exact h.hard
 ·rw[<-e2,<-e9];exact h.nol
 ·rw[<-e2,<-e10];exact h.nod
theorem vZ {x y:ag}(h1:x.mode=y.mode)(h2:x.uid=y.uid)(h3:x.gid=y.gid)(h4:x.mtime=y.mtime):fE x=fE y:=by unfold fE;rw[h1,h2,h3,h4]
theorem Kx {l:List ag}(h:dn l){x:ag}(hx:l[i]?=some x):vY (db l i x):=by
 have hm:=gM hx;have g:=fO.1 (h.err x hm);cases hg:iq x with
 | false=>rw[jP hg];exact g
 | true=>
  obtain⟨y,hy,gy,py,hle⟩:=kD hm hg;obtain⟨d,f,hd,fk,fp,fc⟩:=lR h hm hg;have hda:cJ l x=d:=by unfold cJ;rw[Dr h hd fk fp l.length (gS hd).1];rfl
  have gf:=fO.1 (h.err f (gM hd));have gy':=fO.1 (h.err y (gM hy));unfold db;rw[if_pos hg];split
  ·rename_i hf;refine⟨g.path,⟨by show(1:Int)<=1;omega,by show(1:Int)<=4;omega⟩,(vZ rfl rfl rfl rfl).trans g.num,g.own,fun k=>?_,fun k=>?_,fun _ _=>rfl,fun k=>absurd rfl k,?_⟩
   ·exact absurd k (by show ¬ (1:Int)=3;omega)
   ·exact absurd k (by show ¬ (1:Int)=4;omega)
   ·show(fN l (cJ l x)).length<=_;rw[hda];unfold fN;rw[hd];exact gf.dat
  ·rename_i hf;refine⟨g.path,⟨by show(1:Int)<=4;omega,by show(4:Int)<=4;omega⟩,(vZ rfl rfl rfl rfl).trans g.num,g.own,fun k=>?_,fun _=>?_,fun _ k=>absurd rfl k,fun _=>rfl,z0⟩
   ·exact absurd k (by show ¬ (4:Int)=3;omega)
   ·show cR (bl (du l (bH l x)))=true/\du l (bH l x)≠x.path;unfold du;rw[hy];exact⟨gy'.path,fun e=>hf (h.nd (bH l x) i y x hy hx e).symm⟩
theorem NH {l:List ag}{x:ag}:(db l i x).kind=2↔x.kind=2:=by
 cases hg:iq x with
 | false=>rw[jP hg]
 | true=>
  have:=cQ.1 hg;unfold db;rw[if_pos hg];split
  ·show(1:Int)=2↔_;omega
  ·show(4:Int)=2↔_;omega
structure rz (l m:List ag):Prop where
 back:∀ y∈m,∃ (i:Nat) (x:ag),l[i]?=some x/\(db l i x).same y
 forth:∀ (i:Nat)(x:ag),l[i]?=some x->∃ y∈m,(db l i x).same y
 nd:(m.map ag.path).Nodup
 ord:m.Pairwise (fun x y=>¬ bl y.path<bl x.path)
theorem fP {l:List ag}(h:∀ (i j:Nat)(x y:ag),l[i]?=some x->l[j]?=some y->x.path=y.path->i=j):(l.map ag.path).Nodup:=by
 rw[List.Nodup,List.pairwise_iff_getElem];intro i j hi hj hij e;simp only[List.getElem_map] at e;have hi':i<l.length:=by simpa using hi
 have hj':j<l.length:=by simpa using hj
 have:=h i j l[i] l[j] (gG hi') (gG hj') e;omega
theorem sh {l:List ag}(h:(l.map ag.path).Nodup):∀ (i j:Nat)(x y:ag),l[i]?=some x->l[j]?=some y->x.path=y.path->i=j:=by
 intro i j x y hi hj e;obtain⟨hi',hi⟩:=gS hi;obtain⟨hj',hj⟩:=gS hj;rw[List.Nodup,List.pairwise_iff_getElem] at h;rcases Nat.lt_trichotomy i j with k | k | k
 ·exact absurd (show(l.map ag.path)[i]'(by simpa using hi')=(l.map ag.path)[j]'(by simpa using hj') by simp only[List.getElem_map,hi,hj];exact e) (h i j (by simpa using hi') (by simpa using hj') k)
 ·exact k
 ·exact absurd (show(l.map ag.path)[j]'(by simpa using hj')=(l.map ag.path)[i]'(by simpa using hi') by simp only[List.getElem_map,hi,hj];exact e.symm) (h j i (by simpa using hj') (by simpa using hi') k)
theorem Az {l m0 m:List ag}(h:dn l)(hl:m0.length=l.length)(hs:∀ (i:Nat)(x y:ag),l[i]?=some x->m0[i]?=some y->(db l i x).same y)(hp:m.Perm m0)(ho:m.Pairwise (fun x y=>¬ bl y.path<bl x.path)):rz l m:=by
 refine⟨fun y hy=>?_,fun i x hx=>?_,?_,ho⟩
 ·obtain⟨i,hi⟩:=List.getElem?_of_mem (hp.mem_iff.1 hy);have hil:i<l.length:=by rw[<-hl];exact(gS hi).1
  exact⟨i,l[i],gG hil,hs i _ y (gG hil) hi⟩
 ·have hil:i<m0.length:=by rw[hl];exact(gS hx).1
  exact⟨m0[i],hp.mem_iff.2 (List.getElem_mem hil),hs i x _ hx (gG hil)⟩
 ·have e:m0.map ag.path=l.map ag.path:=by
   apply List.ext_getElem
   ·simp[hl]
   ·intro i h1 h2;have hil:i<l.length:=by simpa using h2
    have him:i<m0.length:=by simpa using h1
    simp only[List.getElem_map];have:=(hs i _ _ (gG hil) (gG him)).path;rw[<-this,dB]
  rw[(hp.map ag.path).nodup_iff,e];exact fP h.nd
theorem rA {l m:List ag}(h:dn l)(c:rz l m):dn m:=by
 have nd:=sh c.nd;refine⟨fun y hy=>?_,nd,fun y hy z hz hp=>?_,fun k y hk h4=>?_⟩
 ·obtain⟨i,x,hx,hs⟩:=c.back y hy;exact fO.2 ((Kx h hx).same hs)
 ·obtain⟨i,x,hx,hs⟩:=c.back y hy;obtain⟨j,w,hw,ht⟩:=c.back z hz;rw[<-ht.kind,NH];refine h.up x (gM hx) w (gM hw) ?_;rw[<-ht.path,<-hs.path,dB,dB] at hp;exact hp
 ·obtain⟨i,x,hx,hs⟩:=c.back y (gM hk);have hm:=gM hx;have hg:iq x=true:=by
   cases hg:iq x with
   | true=>rfl
   | false=>
    rw[jP hg] at hs;have:x.kind=4:=hs.kind.trans h4;rw[cQ.2 (.inr this)] at hg;cases hg
  obtain⟨f,hf,gf,pf,hle⟩:=kD hm hg;have hne:i≠bH l x:=by
   intro e;have hk1:(db l i x).kind=1:=by unfold db;rw[if_pos hg,if_pos e]
   rw[<-hs.kind,hk1] at h4;cases h4
  have hlink:y.link=f.path:=by
   rw[<-hs.link];unfold db;rw[if_pos hg,if_neg hne];show du l (bH l x)=_;unfold du;rw[hf];rfl
  have hff:bH l f=bH l x:=by unfold bH;rw[pf]
  obtain⟨w,hw,ht⟩:=c.forth (bH l x) f hf;have hwk:w.kind=1:=by rw[<-ht.kind];unfold db;rw[if_pos gf,if_pos hff.symm]
  have hwp:w.path=f.path:=by rw[<-ht.path,dB]
  obtain⟨j,hj⟩:=List.getElem?_of_mem hw;have hxp:x.path=y.path:=by rw[<-hs.path,dB]
  have hnp:f.path≠x.path:=fun e=>hne (h.nd _ _ f x hf hx e).symm;refine⟨j,w,?_,hj,by rw[hwp,hlink],hwk,?_⟩
  ·rcases Nat.lt_trichotomy j k with g | g | g
   ·exact g
   ·subst g;rw[hk] at hj;injection hj with hj;rw[<-hj,<-hxp] at hwp;exact absurd hwp.symm hnp
   ·exfalso;have ho:=c.ord;rw[List.pairwise_iff_getElem] at ho;obtain⟨hk',hke⟩:=gS hk;obtain⟨hj',hje⟩:=gS hj;have h1:=ho k j hk' hj' g;rw[hke,hje,hwp,<-hxp] at h1;have h2:=hle x hm hg rfl;exact hnp (dC (List.le_antisymm (List.not_lt.1 h2) (List.not_lt.1 h1)))
  ·obtain⟨d1,f1,hd1,_,fp1,fc1⟩:=lR h hm hg;obtain⟨d2,f2,hd2,_,fp2,fc2⟩:=lR h (gM hf) gf;have hf12:f1=f2:=by
    have:=h.nd d1 d2 f1 f2 hd1 hd2 (by rw[fp1,fp2,pf]);subst this;rw[hd1] at hd2;injection hd2
   subst hf12;obtain⟨p1,p2,p3,p4,p5,p6⟩:=kC.1 fc1;obtain⟨q1,q2,q3,q4,q5,q6⟩:=kC.1 fc2;obtain⟨a1,a2,a3,a4,a5,a6⟩:=nx l i x;obtain⟨b1,b2,b3,b4,b5,b6⟩:=nx l (bH l x) f;refine kC.2 ⟨?_,?_,?_,?_,?_,?_⟩
   ·rw[<-hs.mode,<-ht.mode,a1,b1,p1,q1]
   ·rw[<-hs.uid,<-ht.uid,a2,b2,p2,q2]
   ·rw[<-hs.gid,<-ht.gid,a3,b3,p3,q3]
   ·rw[<-hs.owner,<-ht.owner,a4,b4,p4,q4]
   ·rw[<-hs.group,<-ht.group,a5,b5,p5,q5]
   ·rw[<-hs.mtime,<-ht.mtime,a6,b6,p6,q6]
end
section
open Go.RowKit Go.Maps
theorem NJ (l:LU):Lib.containsAny l [0,10]=(lA l 0||lA l 10):=by
 unfold Lib.containsAny lA
 induction l with
 | nil=>rfl
 | cons b r ih=>
  have hg:=Lib.indexAny_ge [0,10] r;unfold Lib.indexAny;by_cases hb:([0,10]:LU).contains b=true
  ·rw[if_pos hb];simp at hb;rcases hb with rfl | rfl<;>simp
  ·rw[if_neg hb];simp at hb;obtain⟨h0,h1⟩:=hb;have e:decide (0<=(if (Lib.indexAny r [0,10] == -1)=true then (-1:Int) else Lib.indexAny r [0,10]+1))=decide (0<=Lib.indexAny r [0,10]):=by
    rw[bI,decide_eq_true_eq,decide_eq_true_eq];split
    ·rename_i k;have:=eq_of_beq k;omega
    ·rename_i k;have:Lib.indexAny r [0,10]≠-1:=fun e=>k (by rw[e];rfl);omega
   rw[e,ih];have c0:∀ c:UInt8,¬ b=c->(b::r).contains c=r.contains c:=fun c hc=>by
    rw[List.contains_cons,show(c==b)=false from by simpa using fun e=>hc e.symm,Bool.false_or]
   rw[c0 0 h0,c0 10 h1]
theorem Ds (h:jT s=true):1<=s.size/\s.size<=200/\lA (bl s) 0=false/\lA (bl s) 10=false:=by
 unfold jT at h;rw[NJ] at h;simpa [and_assoc] using h
theorem we (x:ag)(w:World)(g:vY x)(hs:x.small):Calls Tryz.prog 116 #[x.val] w fun e w'=>e=.returned (.int .i64 0)/\Below w.heap.size w w':=by
 have HG:=ae g;have HS:=ae hs;have N:=g.num;unfold fE at N;simp only[Bool.or_eq_false_iff,decide_eq_false_iff_not] at N;obtain⟨⟨⟨⟨⟨⟨⟨n1,n2⟩,n3⟩,n4⟩,n5⟩,n6⟩,n7⟩,n8⟩:=N;have k1:¬ x.kind<1:=by have:=g.kind;omega
 have k2:¬ 4<x.kind:=by have:=g.kind;omega
 clear g hs;obtain⟨W0,hW0⟩:∃ W0,w.alloc (.cells #[.string x.path,.int .i64 x.kind,.int .i64 x.mode,.int .i64 x.uid,.int .i64 x.gid,.string x.owner,.string x.group,.int .i64 x.mtime,.string x.link,.slice x.da x.data.length x.dc] 35)=W0:=⟨_,rfl⟩
 have B0:Hid (EB w W0 x):=by show EB _ _ _;rw[<-hW0];exact EB.start w x
 have c0:=B0.out.blk.cell 0 _ rfl;unfold ag.val;go_in;go_wp2_with fail;clear hW0 c0;refine(Bo x.path _ (by have:=HS.out.path;omega)).mono ?_;rintro e w1 ⟨rfl,hb1⟩;rw[HG.out.path];have B1:=ae (B0.out.step hb1);clear hb1 B0;have c0:=B1.out.blk.cell 0 _ rfl;have c1:=B1.out.blk.cell 1 _ rfl;have c2:=B1.out.blk.cell 2 _ rfl;have c3:=B1.out.blk.cell 3 _ rfl;have c4:=B1.out.blk.cell 4 _ rfl;have c5:=B1.out.blk.cell 5 _ rfl;have c6:=B1.out.blk.cell 6 _ rfl;have c7:=B1.out.blk.cell 7 _ rfl;have c8:=B1.out.blk.cell 8 _ rfl;have c9:=B1.out.blk.cell 9 _ rfl;go_wp2_with fail;refine(Dq x.owner _ (by have:=HS.out.owner;omega)).mono ?_;rintro e w2 ⟨rfl,rfl⟩;rw[HG.out.own.1];go_wp2_with fail;refine(Dq x.group _ (by have:=HS.out.group;omega)).mono ?_;rintro e w2 ⟨rfl,rfl⟩;rw[HG.out.own.2];have hdm:¬ (1048576:Int)<(x.data.length:Int):=by have:=HG.out.dat;omega
 have HK:=HS.out.link;clear n1 n2 n3 n4 n5 n6 n7 n8;rcases(by omega:x.kind=1\/x.kind=2\/x.kind=3\/x.kind=4) with hk | hk | hk | hk
 all_goals
  rw[hk] at c1 k1 k2;have K:=ae hk;clear hk
 ·have l1:=pG (HG.out.nol (by rw[K.out];decide) (by rw[K.out];decide));go_wp2;go_ret;exact⟨rfl,B1.out.bel⟩
 ·have l1:=pG (HG.out.nol (by rw[K.out];decide) (by rw[K.out];decide));have d0:=HG.out.nod (by rw[K.out];decide);have d1:¬ (0:Int)<(x.data.length:Int):=by omega
  have D0:=ae d0;clear d0;go_wp2;go_ret;exact⟨rfl,B1.out.bel⟩
 ·have d0:=HG.out.nod (by rw[K.out];decide);have d1:¬ (0:Int)<(x.data.length:Int):=by omega
  have D0:=ae d0;obtain⟨t1,t2,t3,t4⟩:=Ds (HG.out.targ K.out);have l1:=qM (s:=x.link) (by omega);have l2:x.link.toList.isEmpty=false:=by cases h:x.link.toList with | nil=>exact absurd h l1 | cons a r=>rfl
  have t5:¬ (200:Int)<(x.link.size:Int):=by omega
  have T:=ae t1;clear d0 t1;go_wp2_with fail;refine(tp x.link 0 _ (by omega)).mono ?_;rintro e w2 ⟨rfl,rfl⟩;rw[t3];go_wp2_with fail;refine(tp x.link 10 _ (by omega)).mono ?_;rintro e w2 ⟨rfl,rfl⟩;rw[t4];go_wp2;go_ret;exact⟨rfl,B1.out.bel⟩
 ·have d0:=HG.out.nod (by rw[K.out];decide);have d1:¬ (0:Int)<(x.data.length:Int):=by omega
  have D0:=ae d0;obtain⟨t1,t2⟩:=HG.out.hard K.out;have e1:(x.link.toList==x.path.toList)=false:=by rw[et];exact dF t2
  clear d0 t2;go_wp2_with fail;refine(Bo x.link _ (by omega)).mono ?_;rintro e w2 ⟨rfl,hb2⟩;rw[t1];have B2:=ae (B1.out.step hb2);clear hb2 B1 c0 c1 c2 c3 c4 c5 c6 c7 c8 c9;have c0:=B2.out.blk.cell 0 _ rfl;have c1:=B2.out.blk.cell 1 _ rfl;have c8:=B2.out.blk.cell 8 _ rfl;have c9:=B2.out.blk.cell 9 _ rfl;rw[K.out] at c1;go_wp2;go_ret;exact⟨rfl,B2.out.bel⟩
end
end Go.Proofs.YtlglfpbhapmhiaaGreatDoor
