/- A part of the proof. -/
import Derived.Outline
import Derived.Test.YtlglfpbhapmhiaaGreatDoorK37
set_option maxRecDepth 100000
set_option maxHeartbeats 20000000
set_option linter.unusedVariables false
set_option linter.unusedSimpArgs false
namespace Go.Proofs.YtlglfpbhapmhiaaGreatDoor
section
open Go.RowKit Go.Maps
structure dt.fits (b:dt):Prop where
 pk:b.pk.fits
 conf:b.conf.length≤9223372036854775807
 conf_:∀ s∈b.conf,s.size≤9223372036854775807
 ents:b.ents.length≤9223372036854775807
 ents_:∀ x∈b.ents,x.fits
structure dt.lite (b:dt):Prop where
 pk:zK b.pk≤10000
 conf:b.conf.length≤40
 conf_:∀ s∈b.conf,s.size≤500
 ents:b.ents.length≤30
 ents_:∀ x∈b.ents,x.lite
def LP (b:dt)(w:World)(e:Ending)(w':World):Prop:=(∃ bb:Bool,e=.returned (.bool bb)∧(bb=true→b.lite))∧Below w.heap.size w w'
theorem It (b:dt)(w:World)(hb:b.ok w)(hf:b.fits):Calls Tryz.prog 6 #[b.val] w (LP b w):=by
 have HO:=ae hb
 have HF:=ae hf
 clear hb hf
 obtain⟨W0,hW0⟩:∃ W0,w.alloc (.cells #[.string b.pk.nm,.string b.pk.ver,.string b.pk.ar,.string b.pk.sm,.slice b.pk.na b.pk.needs.length b.pk.nc,.slice b.pk.ba b.pk.bars.length b.pk.bc,.slice b.pk.ga b.pk.gives.length b.pk.gc,.slice b.pk.fa b.pk.files.length b.pk.fc,.slice b.pk.sa b.pk.scripts.length b.pk.sc,.slice b.ca b.conf.length b.cc,.slice b.ea b.ents.length b.ec] 30)=W0:=⟨_,rfl⟩
 have B0:Hid (Bx w W0 b.cells):=by show Bx _ _ _;rw[←hW0];exact Bx.start w b.cells _
 have b0:=B0.out.cell 0 _ rfl
 have b1:=B0.out.cell 1 _ rfl
 have b2:=B0.out.cell 2 _ rfl
 have b3:=B0.out.cell 3 _ rfl
 have b4:=B0.out.cell 4 _ rfl
 have b5:=B0.out.cell 5 _ rfl
 have b6:=B0.out.cell 6 _ rfl
 have b7:=B0.out.cell 7 _ rfl
 have b8:=B0.out.cell 8 _ rfl
 have b9:=B0.out.cell 9 _ rfl
 have b10:=B0.out.cell 10 _ rfl
 have CW:=(zL b.pk 10000 (by omega) (by omega) W0 (HO.out.pk.below B0.out.bel) HF.out.pk)
 unfold dt.val
 unfold bN.val at CW
 have hcl:=HF.out.conf
 go_enter Tryz.func6,Tryz.ntmps6
 go_wp2_with fail
 clear hW0 b0 b1 b2 b3 b4 b5 b6 b7 b8 b9 b10
 refine CW.mono ?_;rintro e w1 ⟨⟨m,rfl,hm⟩,hb1⟩
 have B1:=ae (B0.out.step hb1)
 clear CW hb1 B0
 have c9:=B1.out.cell 9 _ rfl
 have WI:=ae hm;clear hm
 by_cases hw:m≤10000
 case neg=>
  have q:(10000:Int)<m:=by omega
  go_wp2_with fail
  go_ret
  exact⟨⟨false,rfl,fun h=>by cases h⟩,B1.out.bel⟩
 have HW:Hid (zK b.pk≤10000):=by have:=WI.out.2.2 hw;show _≤_;omega
 by_cases hc:b.conf.length≤40
 case neg=>
  have q:(40:Int)<(b.conf.length:Int):=by omega
  go_wp2_with fail
  go_ret
  exact⟨⟨false,rfl,fun h=>by cases h⟩,B1.out.bel⟩
 go_wp2_with fail
 go_loopw [3] (fun i wr=>∃ (k:Nat),k≤b.conf.length∧i=.int .i64 k∧Hid (∀ s∈b.conf.take k,s.size≤500)∧Hid (Bx w wr b.cells)) (fun i _=>b.conf.length-(intOf i).toNat)
 case atStart=>exact⟨0,z0,rfl,(fun x hx=>by simp at hx),B1⟩
 case round=>
  clear c9
  obtain⟨k,hk,rfl,U,B⟩:=hrel
  have c9:=B.out.cell 9 _ rfl
  by_cases hlt:k<b.conf.length
  ·obtain⟨x,hx⟩:∃ x,b.conf[k]?=some x:=⟨_,gG hlt⟩
   obtain⟨bb,off,hA,he⟩:=(HO.out.conf.below B.out.bel).str k x hx
   have hix:=fun W=>aH (T:=22) (E:=9) (sz:=1) (c:=b.cc) Tryz.underlying22 rfl Tryz.sizeOf9 hA hlt W
   simp only[Nat.mul_one] at hix
   have hsx:=HF.out.conf_ x (gM hx)
   have HX:=ae hx;clear hx hA
   by_cases hs:x.size≤500
   ·go_wp2_with fail
    go_roundw
    case rel=>
     refine⟨k+1,by omega,by go_num,fun y hy=>?_,B⟩
     rw[rh HX.out] at hy
     rcases List.mem_append.1 hy with hy | hy
     ·exact U.out y hy
     ·rw[List.mem_singleton.1 hy];exact hs
    case measure=>simp[intOf];omega
   ·have q:(500:Int)<(x.size:Int):=by omega
    go_wp2_with fail
    go_ret
    exact⟨⟨false,rfl,fun h=>by cases h⟩,B.out.bel⟩
  ·have hkl:k=b.conf.length:=by omega
   subst hkl
   have U2:Hid (∀ s∈b.conf,s.size≤500):=by have:=U.out;rwa [List.take_length] at this
   have HC:=ae hc
   have c10:=B.out.cell 10 _ rfl
   go_wp2_with fail
   refine(Dq b.ea b.ec b.ents _ (HO.out.ents.below B.out.bel) HF.out.ents HF.out.ents_).mono ?_;rintro e w2 ⟨⟨bb,rfl,hbb⟩,hb2⟩
   have B2:=ae (B.out.step hb2)
   have HB:=ae hbb
   clear hbb hb2 c9 c10
   go_wp2_with fail
   go_ret
   exact⟨⟨_,rfl,fun h=>⟨HW.out,HC.out,U2.out,(HB.out h).1,(HB.out h).2⟩⟩,B2.out.bel⟩
theorem gF {α:Type}{f:α→α→Bool}(hf:∀ x,f x x=true):∀ l:List α,nW f l l=true
 | []=>by simp[nW]
 | x::r=>by simp[nW,hf x,gF hf r]
theorem Fw (p:bN):gy p p=true:=
 uV (eU _) (eU _) (eU _) (eU _) (gF eU _) (gF eU _) (gF (fun x=>by simp[ig,eU]) _) (gF (fun x=>by simp[ii,eU]) _) (gF (fun x=>by simp[dP,eU]) _)
structure KM (w wr:World) (b:dt) (B:OA) (d:Nat):Prop where
 one:av wr w.heap.size b.cells
 two:av wr (w.heap.size+1) [.string b.pk.nm,.string b.pk.ver,.string b.pk.ar,.string b.pk.sm,.slice b.pk.na b.pk.needs.length b.pk.nc,.slice b.pk.ba b.pk.bars.length b.pk.bc,.slice b.pk.ga b.pk.gives.length b.pk.gc,.slice b.pk.fa b.pk.files.length b.pk.fc,.slice b.pk.sa b.pk.scripts.length b.pk.sc,.slice b.ca b.conf.length b.cc,.slice B b.ents.length d]
 bel:Below w.heap.size w wr
theorem KM.step {w wr w':World}{b:dt}{B:OA}{d:Nat}(h:KM w wr b B d)(hb:Below wr.heap.size wr w'):KM w w' b B d:=⟨h.one.below hb,h.two.below hb,ap h.bel hb⟩
theorem KM.start (w:World)(b:dt)(B:OA)(d:Nat):KM w ((w.alloc (.cells #[.string b.pk.nm,.string b.pk.ver,.string b.pk.ar,.string b.pk.sm,.slice b.pk.na b.pk.needs.length b.pk.nc,.slice b.pk.ba b.pk.bars.length b.pk.bc,.slice b.pk.ga b.pk.gives.length b.pk.gc,.slice b.pk.fa b.pk.files.length b.pk.fc,.slice b.pk.sa b.pk.scripts.length b.pk.sc,.slice b.ca b.conf.length b.cc,.slice b.ea b.ents.length b.ec] 30)).alloc (.cells #[.string b.pk.nm,.string b.pk.ver,.string b.pk.ar,.string b.pk.sm,.slice b.pk.na b.pk.needs.length b.pk.nc,.slice b.pk.ba b.pk.bars.length b.pk.bc,.slice b.pk.ga b.pk.gives.length b.pk.gc,.slice b.pk.fa b.pk.files.length b.pk.fc,.slice b.pk.sa b.pk.scripts.length b.pk.sc,.slice b.ca b.conf.length b.cc,.slice B b.ents.length d] 30)) b B d:=by
 have h2:=av.new (w.alloc (.cells #[.string b.pk.nm,.string b.pk.ver,.string b.pk.ar,.string b.pk.sm,.slice b.pk.na b.pk.needs.length b.pk.nc,.slice b.pk.ba b.pk.bars.length b.pk.bc,.slice b.pk.ga b.pk.gives.length b.pk.gc,.slice b.pk.fa b.pk.files.length b.pk.fc,.slice b.pk.sa b.pk.scripts.length b.pk.sc,.slice b.ca b.conf.length b.cc,.slice b.ea b.ents.length b.ec] 30)) [.string b.pk.nm,.string b.pk.ver,.string b.pk.ar,.string b.pk.sm,.slice b.pk.na b.pk.needs.length b.pk.nc,.slice b.pk.ba b.pk.bars.length b.pk.bc,.slice b.pk.ga b.pk.gives.length b.pk.gc,.slice b.pk.fa b.pk.files.length b.pk.fc,.slice b.pk.sa b.pk.scripts.length b.pk.sc,.slice b.ca b.conf.length b.cc,.slice B b.ents.length d] 30
 simp only[World.size_alloc] at h2
 exact⟨(av.new w b.cells _).alloc _,h2,(bR.alloc lr _).alloc (by simp) _⟩
theorem Ke (b:dt)(B:OA)(d:Nat)(m:List am)(w:World)(hb:b.ok w)(hf:b.fits)(hF:fL w B m)(hl:m.length=b.ents.length)(hs:∀ (i:Nat)(x y:am),b.ents[i]?=some x→m[i]?=some y→x.same y)(hn:b.ents.length≤100000):
  Calls Tryz.prog 9 #[b.val,.agg #[.string b.pk.nm,.string b.pk.ver,.string b.pk.ar,.string b.pk.sm,.slice b.pk.na b.pk.needs.length b.pk.nc,.slice b.pk.ba b.pk.bars.length b.pk.bc,.slice b.pk.ga b.pk.gives.length b.pk.gc,.slice b.pk.fa b.pk.files.length b.pk.fc,.slice b.pk.sa b.pk.scripts.length b.pk.sc,.slice b.ca b.conf.length b.cc,.slice B b.ents.length d]] w fun e w'=>e=.returned (.bool true)∧Below w.heap.size w w':=by
 have HO:=ae hb
 have HF:=ae hf
 have HE:=ae hF
 have HL:=ae hl
 have HS:=ae hs
 clear hb hf hF hl hs
 obtain⟨W0,hW0⟩:∃ W0,((w.alloc (.cells #[.string b.pk.nm,.string b.pk.ver,.string b.pk.ar,.string b.pk.sm,.slice b.pk.na b.pk.needs.length b.pk.nc,.slice b.pk.ba b.pk.bars.length b.pk.bc,.slice b.pk.ga b.pk.gives.length b.pk.gc,.slice b.pk.fa b.pk.files.length b.pk.fc,.slice b.pk.sa b.pk.scripts.length b.pk.sc,.slice b.ca b.conf.length b.cc,.slice b.ea b.ents.length b.ec] 30)).alloc (.cells #[.string b.pk.nm,.string b.pk.ver,.string b.pk.ar,.string b.pk.sm,.slice b.pk.na b.pk.needs.length b.pk.nc,.slice b.pk.ba b.pk.bars.length b.pk.bc,.slice b.pk.ga b.pk.gives.length b.pk.gc,.slice b.pk.fa b.pk.files.length b.pk.fc,.slice b.pk.sa b.pk.scripts.length b.pk.sc,.slice b.ca b.conf.length b.cc,.slice B b.ents.length d] 30))=W0:=⟨_,rfl⟩
 have P0:Hid (KM w W0 b B d):=by show KM _ _ _ _ _;rw[←hW0];exact KM.start w b B d
 have b0:=P0.out.one.cell 0 _ rfl
 have b1:=P0.out.one.cell 1 _ rfl
 have b2:=P0.out.one.cell 2 _ rfl
 have b3:=P0.out.one.cell 3 _ rfl
 have b4:=P0.out.one.cell 4 _ rfl
 have b5:=P0.out.one.cell 5 _ rfl
 have b6:=P0.out.one.cell 6 _ rfl
 have b7:=P0.out.one.cell 7 _ rfl
 have b8:=P0.out.one.cell 8 _ rfl
 have b9:=P0.out.one.cell 9 _ rfl
 have b10:=P0.out.one.cell 10 _ rfl
 have d0:=P0.out.two.cell 0 _ rfl
 have d1:=P0.out.two.cell 1 _ rfl
 have d2:=P0.out.two.cell 2 _ rfl
 have d3:=P0.out.two.cell 3 _ rfl
 have d4:=P0.out.two.cell 4 _ rfl
 have d5:=P0.out.two.cell 5 _ rfl
 have d6:=P0.out.two.cell 6 _ rfl
 have d7:=P0.out.two.cell 7 _ rfl
 have d8:=P0.out.two.cell 8 _ rfl
 have d9:=P0.out.two.cell 9 _ rfl
 have d10:=P0.out.two.cell 10 _ rfl
 have CO:=JF b.pk b.pk W0 (HO.out.pk.below P0.out.bel) (HO.out.pk.below P0.out.bel) HF.out.pk HF.out.pk
 rw[Fw] at CO
 unfold bN.val at CO
 unfold dt.val
 go_enter Tryz.func9,Tryz.ntmps9
 go_wp2_with fail
 clear hW0 b0 d0 b1 d1 b2 d2 b3 d3 b4 d4 b5 d5 b6 d6 b7 d7 b8 d8 b9 d9 b10 d10
 refine CO.mono ?_;rintro e w1 ⟨rfl,hb1⟩
 have P1:=ae (P0.out.step hb1)
 clear CO hb1 P0
 have b9:=P1.out.one.cell 9 _ rfl
 have d9:=P1.out.two.cell 9 _ rfl
 have CT:=bK b.ca b.ca b.cc b.cc b.conf b.conf w1 (HO.out.conf.below P1.out.bel) (HO.out.conf.below P1.out.bel) HF.out.conf HF.out.conf
 rw[gF eU] at CT
 go_wp2_with fail
 clear b9 d9
 refine CT.mono ?_;rintro e w2 ⟨rfl,hb2⟩
 have P2:=ae (P1.out.step hb2)
 clear CT hb2 P1
 have b10:=P2.out.one.cell 10 _ rfl
 have d10:=P2.out.two.cell 10 _ rfl
 go_wp2_with fail
 clear b10 d10
 refine(IF b.ea B b.ec d b.ents m w2 (HO.out.ents.below P2.out.bel) (HE.out.below P2.out.bel) HL.out HS.out hn (fun x hx=>(HF.out.ents_ x hx).data)).mono ?_;rintro e w3 ⟨rfl,hb3⟩
 have P3:=ae (P2.out.step hb3)
 clear hb3
 go_wp2_with fail
 go_ret
 exact⟨rfl,P3.out.bel⟩
def zx:am:=⟨⟨#[97]⟩,1,0,0,0,⟨#[]⟩,⟨#[114,111,111,116]⟩,0,⟨#[]⟩,none,0,[]⟩
def zy:am:=⟨⟨#[97]⟩,1,0,0,0,⟨#[114,111,111,116]⟩,⟨#[114,111,111,116]⟩,0,⟨#[]⟩,none,0,[]⟩
def M0:bN:={ nm:=⟨#[97,97]⟩,ver:=⟨#[49,45,49]⟩,ar:=⟨#[97,108,108]⟩,sm:=⟨#[115]⟩,needs:=[],bars:=[],gives:=[],files:=[],scripts:=[],na:=none,nc:=0,ba:=none,bc:=0,ga:=none,gc:=0,fa:=none,fc:=0,sa:=none,sc:=0 }
def xa (x:am)(g:Nat):dt:=⟨M0,none,0,[],some ⟨g,0,none⟩,1,[x]⟩
theorem Kq (g:Nat):kG 1 (xa zx g)=(⟨#[97]⟩,1):=by kernel_rfl
theorem Mb (g:Nat):(kG 1 (xa zy g)).2=0:=by kernel_rfl
theorem Kr:(bM 1 [] [zy]).map ax.sum=[⟨#[100,52,49,100,56,99,100,57,56,102,48,48,98,50,48,52,101,57,56,48,48,57,57,56,101,99,102,56,52,50,55,101]⟩]:=by kernel_rfl
def Jk (W:World)(g n:Nat):Prop:=(∀ j,j<n→∃ v,W.cell? ⟨g,j,none⟩=some v)∧∀ j,W.frozen? ⟨g,j,none⟩=false
def th (W:World)(g n:Nat):Prop:=(∀ j,j<n→∃ c:UInt8,W.cell? ⟨g,j,none⟩=some (vb c))∧∀ j,W.frozen? ⟨g,j,none⟩=false
theorem Jk.below {W W':World}{g n:Nat}(h:Jk W g n)(hg:g<W.heap.size)(hb:Below W.heap.size W W'):Jk W' g n:=
 ⟨fun j hj=>by obtain⟨v,hv⟩:=h.1 j hj;exact⟨v,(hb.cell (p:=⟨g,j,none⟩) hg).trans hv⟩,fun j=>(hb.frozen (p:=⟨g,j,none⟩) hg).trans (h.2 j)⟩
theorem th.below {W W':World}{g n:Nat}(h:th W g n)(hg:g<W.heap.size)(hb:Below W.heap.size W W'):th W' g n:=
 ⟨fun j hj=>by obtain⟨v,hv⟩:=h.1 j hj;exact⟨v,(hb.cell (p:=⟨g,j,none⟩) hg).trans hv⟩,fun j=>(hb.frozen (p:=⟨g,j,none⟩) hg).trans (h.2 j)⟩
theorem mZ (W:World)(p a:Addr)(v:Value):(W.setCell p v).frozen? a=W.frozen? a:=by simp
theorem Jk.set {W:World}{g n:Nat}(h:Jk W g n)(p:Addr)(v:Value):Jk (W.setCell p v) g n:=
 ⟨fun j hj=>by obtain⟨u,hu⟩:=h.1 j hj;exact cell?_setCell_some hu,fun j=>by rw[mZ];exact h.2 j⟩
theorem th.far {W:World}{g n:Nat}(h:th W g n){p:Addr}(hp:p.block≠g)(v:Value):th (W.setCell p v) g n:=
 ⟨fun j hj=>by obtain⟨u,hu⟩:=h.1 j hj;exact⟨u,(World.cell?_setCell_far W p ⟨g,j,none⟩ v hp).trans hu⟩,fun j=>by rw[mZ];exact h.2 j⟩
theorem th.set {W:World}{g n:Nat}(h:th W g n)(p:Addr)(c:UInt8):th (W.setCell p (vb c)) g n:=
 ⟨fun j hj=>by
  obtain⟨u,hu⟩:=h.1 j hj
  by_cases hp:p=⟨g,j,none⟩
  ·subst hp;exact⟨c,World.cell?_setCell_same (h:=hu) ..⟩
  ·exact⟨u,(World.cell?_setCell_other W p _ _ hp).trans hu⟩,fun j=>by rw[mZ];exact h.2 j⟩
theorem ot {W:World}{B:Nat}{e:TypeId}{s n c:Nat}{A:OA}{xs:LV}(h:W.ownsRow B e s (.slice A n c) n xs)(hn:0<n):∃ g,A=some ⟨g,0,none⟩∧B≤g∧g<W.heap.size∧Jk W g (n*s):=by
 obtain⟨g,hA,h1,h2,h3,h4⟩:=fE h hn
 exact⟨g,hA,h1,h2,fun j hj=>h3 j hj,h4⟩
theorem vy {W:World}{B:Nat}{e:TypeId}{s n c g:Nat}{xs:LV}(h:W.ownsRow B e s (.slice (some ⟨g,0,none⟩) n c) n xs)(hg:g<W.heap.size)(hn:0<n):av W g xs:=by
 obtain⟨b,o,hbo,hc⟩:=(cP h).2 hn
 have hgo:g=b∧o=0:=by injection hbo with hbo;injection hbo with h1 h2 _;exact⟨h1,h2.symm⟩
 obtain⟨rfl,rfl⟩:=hgo
 exact⟨hg,fun j u hu=>by have:=hc j u hu;rwa [Nat.zero_add] at this,fun j _=>h.frozenAt j⟩
structure FF (wB wr:World) (np nc:Nat) (q:bN) (r:dt):Prop where
 bel:Below wB.heap.size wB wr
 pk:av wr np [.string q.nm,.string q.ver,.string q.ar,.string q.sm,.slice q.na q.needs.length q.nc,.slice q.ba q.bars.length q.bc,.slice q.ga q.gives.length q.gc,.slice q.fa q.files.length q.fc,.slice q.sa q.scripts.length q.sc]
 cn:av wr nc r.cells
 nd:0<q.needs.length→∃ g,q.na=some ⟨g,0,none⟩∧wB.heap.size≤g∧g<np∧Jk wr g (q.needs.length*1)
 sc:0<q.scripts.length→∃ g,q.sa=some ⟨g,0,none⟩∧wB.heap.size≤g∧g<np∧Jk wr g (q.scripts.length*2)
 cf:0<r.conf.length→∃ g,r.ca=some ⟨g,0,none⟩∧np<g∧g<nc∧Jk wr g (r.conf.length*1)
 lo:wB.heap.size≤np
 hi:np<nc
theorem FF.set {wB wr:World}{np nc g j:Nat}{q:bN}{r:dt}(h:FF wB wr np nc q r)(hg:wB.heap.size≤g)(h1:g≠np)(h2:g≠nc)(v:Value):FF wB (wr.setCell ⟨g,j,none⟩ v) np nc q r:=
 ⟨ag h.bel hg _,h.pk.far h1 _,h.cn.far h2 _,fun hn=>by obtain⟨g,a,b,c,d⟩:=h.nd hn;exact⟨g,a,b,c,d.set _ _⟩,fun hn=>by obtain⟨g,a,b,c,d⟩:=h.sc hn;exact⟨g,a,b,c,d.set _ _⟩,
  fun hn=>by obtain⟨g,a,b,c,d⟩:=h.cf hn;exact⟨g,a,b,c,d.set _ _⟩,h.lo,h.hi⟩
theorem FF.step {wB wr w':World}{np nc:Nat}{q:bN}{r:dt}(h:FF wB wr np nc q r)(hb:Below wr.heap.size wr w'):FF wB w' np nc q r:=
 have s1:=h.pk.sz
 have s2:=h.cn.sz
 ⟨ap h.bel hb,h.pk.below hb,h.cn.below hb,fun hn=>by obtain⟨g,a,b,c,d⟩:=h.nd hn;exact⟨g,a,b,c,d.below (by omega) hb⟩,fun hn=>by obtain⟨g,a,b,c,d⟩:=h.sc hn;exact⟨g,a,b,c,d.below (by omega) hb⟩,
  fun hn=>by obtain⟨g,a,b,c,d⟩:=h.cf hn;exact⟨g,a,b,c,d.below (by omega) hb⟩,h.lo,h.hi⟩
structure xl (wr:World) (np nc ge:Nat) (r:dt):Prop where
 lt:np<ge∧ge<nc∧nc<wr.heap.size
 er:av wr ge (r.ents.flatMap am.cells)
 da:∀ y∈r.ents,0<y.data.length→∃ h,y.da=some ⟨h,0,none⟩∧np<h∧h<nc∧h≠ge∧th wr h y.data.length
theorem xl.low {wr:World}{np nc ge g j:Nat}{r:dt}(h:xl wr np nc ge r)(hg:g<np)(v:Value):xl (wr.setCell ⟨g,j,none⟩ v) np nc ge r:=
 ⟨⟨h.lt.1,h.lt.2.1,by rw[World.size_setCell];exact h.lt.2.2⟩,h.er.far (by have:=h.lt.1;omega) _,fun y hy hn=>by obtain⟨d,a,b,c,e,f⟩:=h.da y hy hn;exact⟨d,a,b,c,e,f.far (show g≠d by omega) _⟩⟩
theorem xl.set {wr:World}{np nc ge g j:Nat}{r:dt}(h:xl wr np nc ge r)(hg:g≠ge)(c:UInt8):xl (wr.setCell ⟨g,j,none⟩ (vb c)) np nc ge r:=
 ⟨⟨h.lt.1,h.lt.2.1,by rw[World.size_setCell];exact h.lt.2.2⟩,h.er.far hg _,fun y hy hn=>by obtain⟨d,a,b,c',e,f⟩:=h.da y hy hn;exact⟨d,a,b,c',e,f.set _ _⟩⟩
theorem xl.step {wr w':World}{np nc ge:Nat}{r:dt}(h:xl wr np nc ge r)(hb:Below wr.heap.size wr w'):xl w' np nc ge r:=
 ⟨⟨h.lt.1,h.lt.2.1,Nat.lt_of_lt_of_le h.lt.2.2 hb.size⟩,h.er.below hb,fun y hy hn=>by obtain⟨d,a,b,c,e,f⟩:=h.da y hy hn;exact⟨d,a,b,c,e,f.below (by have:=h.lt.2.2;omega) hb⟩⟩
theorem IX {y:am}{W:World}{lo:Nat}(h:y.own W lo)(hn:0<y.data.length):∃ g,y.da=some ⟨g,0,none⟩∧lo≤g∧g<W.heap.size∧th W g y.data.length:=by
 obtain⟨g,hA,h1,h2,_,h4⟩:=fE h hn
 refine⟨g,hA,h1,h2,fun j hj=>?_,h4⟩
 have h':=h
 unfold am.own at h'
 rw[hA] at h'
 have hB:=vy h' h2 hn
 exact⟨y.data[j],hB.cell j _ (by rw[List.getElem?_map,gG hj];rfl)⟩
end
end Go.Proofs.YtlglfpbhapmhiaaGreatDoor
