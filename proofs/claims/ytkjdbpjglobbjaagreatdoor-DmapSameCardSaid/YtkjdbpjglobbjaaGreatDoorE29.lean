/- A part of the proof of a law on dependencies in three formats. No condition. -/
import Derived.Test.YtkjdbpjglobbjaaGreatDoorE28
set_option maxRecDepth 100000
set_option maxHeartbeats 20000000
set_option linter.unusedVariables false
set_option linter.unusedSimpArgs false
namespace Go.Proofs.YtkjdbpjglobbjaaGreatDoor
section
open Go.RowKit
def mX:List Value:=[.int .i64 0,.slice none 0 0,.string ⟨#[]⟩,.string ⟨#[]⟩,.int .i64 0,.int .i64 0]
structure xi (w wr:World) (cb:Nat) (vs:List Value):Prop where
 bel:Below w.heap.size w wr
 res:aF wr w.heap.size mX
 box:aF wr cb vs
 lo:w.heap.size<cb
theorem xi.step {w wr w':World}{cb:Nat}{vs:List Value}(h:xi w wr cb vs)(hb:Below wr.heap.size wr w'):xi w w' cb vs:=⟨ah h.bel hb,h.res.below hb,h.box.below hb,h.lo⟩
theorem xi.set {w wr:World}{cb:Nat}{vs:List Value}(h:xi w wr cb vs)(j:Nat)(hj:j<vs.length)(v:Value):xi w (wr.setCell ⟨cb,j,none⟩ v) cb (vs.set j v):=
 ⟨aw h.bel (Nat.le_of_lt h.lo) _,h.res.far (by have:=h.lo;omega) _,h.box.set j hj v,h.lo⟩
theorem jo {wr:World}{b:Nat}(h:aF wr b mX):wr.cell? ⟨b,0,none⟩=some (.int .i64 0)∧wr.cell? ⟨b,1,none⟩=some (.slice none 0 0)∧wr.cell? ⟨b,2,none⟩=some (.string ⟨#[]⟩)∧wr.cell? ⟨b,3,none⟩=some (.string ⟨#[]⟩)∧wr.cell? ⟨b,4,none⟩=some (.int .i64 0)∧wr.cell? ⟨b,5,none⟩=some (.int .i64 0) ∧
  wr.frozen? ⟨b,0,none⟩=false∧wr.frozen? ⟨b,1,none⟩=false∧wr.frozen? ⟨b,2,none⟩=false∧wr.frozen? ⟨b,3,none⟩=false∧wr.frozen? ⟨b,4,none⟩=false∧wr.frozen? ⟨b,5,none⟩=false:=
 ⟨h.cell 0 _ rfl,h.cell 1 _ rfl,h.cell 2 _ rfl,h.cell 3 _ rfl,h.cell 4 _ rfl,h.cell 5 _ rfl,h.free 0 (by decide),h.free 1 (by decide),h.free 2 (by decide),h.free 3 (by decide),h.free 4 (by decide),h.free 5 (by decide)⟩
abbrev mU (wr:World) (b:Nat) (v0 v1 v2 v3 v4 v5:Value):World:=(((((wr.setCell ⟨b,0,none⟩ v0).setCell ⟨b,1,none⟩ v1).setCell ⟨b,2,none⟩ v2).setCell ⟨b,3,none⟩ v3).setCell ⟨b,4,none⟩ v4).setCell ⟨b,5,none⟩ v5
theorem iu {w wr:World}(h:Below w.heap.size w wr)(v0 v1 v2 v3 v4 v5:Value):Below w.heap.size w (mU wr w.heap.size v0 v1 v2 v3 v4 v5):=
 aw (aw (aw (aw (aw (aw h lr _) lr _) lr _) lr _) lr _) lr _
theorem Do {tmps:Array Value}{w wr:World}(h:aF wr w.heap.size mX)(ht:tmps[4]?=some (.pointer (some ⟨w.heap.size,0,none⟩))){k:Int}(ht5:tmps[5]?=some (.int .i64 k))(a:Int)(A:Option Addr)(n c:Nat)(l p:BA)(x y:Int):
  (results Tryz.f48 tmps).run Tryz.prog (mU wr w.heap.size (.int .i64 a) (.slice A n c) (.string l) (.string p) (.int .i64 x) (.int .i64 y)) =
   .ok (.tuple #[.agg #[.int .i64 a,.slice A n c,.string l,.string p,.int .i64 x,.int .i64 y],.int .i64 k]) (mU wr w.heap.size (.int .i64 a) (.slice A n c) (.string l) (.string p) (.int .i64 x) (.int .i64 y)):=by
 obtain⟨r0,r1,r2,r3,r4,r5,f0,f1,f2,f3,f4,f5⟩:=jo h
 simp(maxDischargeDepth:=9) [results,Tryz.results48,ht,ht5,go_sem,r0,r1,r2,r3,r4,r5]
theorem xj:∀ (l w:LU),eQ l w=Lib.hasPrefix l w
 | [],[]=>rfl
 | _::_,[]=>rfl
 | [],_::_=>rfl
 | a::l,b::w=>by
  have:=xj l w
  unfold Lib.hasPrefix at this ⊢
  simp only[eQ,List.isPrefixOf,this]
  rw[show(a==b)=(b==a) from Bool.eq_iff_iff.2 (by simp only[beq_iff_eq];exact eq_comm)]
theorem IP (k:Nat)(h:k<4):bu.take (k+1)=bu.take k++[bl (ci k)]:=by
 rcases(by omega:k=0∨k=1∨k=2∨k=3) with rfl | rfl | rfl | rfl<;>rfl
def ut (tail:LU)(k:Nat):LU×Nat:=(bu.take k).foldl (vW tail) ([],0)
theorem IQ (tail:LU)(k:Nat)(h:k<4):ut tail (k+1)=vW tail (ut tail k) (bl (ci k)):=by
 unfold ut;rw[IP k h,List.foldl_append];rfl
theorem Mi (tail:LU):ut tail 4=bu.foldl (vW tail) ([],0):=rfl
theorem aF.grownR {wr w':World}{c:Nat}{row:Option Nat}{vs:List Value}(h:aF wr c vs)(hg:wr.grownBy w' row)(hne:some c≠row):aF w' c vs:=by
 have hk:w'.heap[c]?=wr.heap[c]?:=hg.block c h.sz hne
 refine⟨Nat.lt_of_lt_of_le h.sz hg.size,fun j u hu=>?_,fun j hj=>?_⟩
 ·exact(World.cell?_of_block (a:=⟨c,j,none⟩) hk).trans (h.cell j u hu)
 ·exact(World.frozen?_of_block (a:=⟨c,j,none⟩) hk).trans (h.free j hj)
theorem xi.grown {w wr w':World}{cb base:Nat}{row:Option Nat}{vs:List Value}(h:xi w wr cb vs)(hg:wr.grownBy w' row)(hr:∀ g,row=some g→base≤g)(hb:cb<base):xi w w' cb vs:=by
 have lo:=h.lo
 have h1:some cb≠row:=fun e=>by have:=hr cb e.symm;omega
 have h2:some w.heap.size≠row:=fun e=>by have:=hr _ e.symm;omega
 exact⟨h.bel.grown hg h.bel.size (fun j hj=>by have:=hr j hj;omega),h.res.grownR hg h2,h.box.grownR hg h1,lo⟩
theorem xm (w:World)(x:Value):jQ (w.alloc (.cells #[x] 3)) (w.heap.size+1) 1 (some ⟨w.heap.size,0,none⟩) 1 [x]:=by
 refine⟨rfl,fun _=>⟨_,rfl,by simp,fun j u hu=>?_⟩⟩
 cases j with
 | zero=>simp at hu;subst hu;simp[Addr.add]
 | succ j=>simp at hu
structure Ti (w w5 wr:World) (cb gb base:Nat) (nv:Value) (L:List Nat) (vs:Value→List Value):Prop where
 pc:xi w wr cb (vs nv)
 own:wr.ownsRow base 3 1 nv L.length (bZ L)
 txt:wr.heap[gb]?=w5.heap[gb]?
 sz:base≤wr.heap.size
theorem Ti.app {w w5 wr w6:World}{cb gb base:Nat}{nv v1:Value}{L:List Nat}{x:Nat}{a b c d e:Value}(h:Ti w w5 wr cb gb base nv L (fun v=>[a,v,b,c,d,e]))(o:Obj)
  (hown:w6.ownsRow base 3 1 v1 (L.length+1) (bZ L++[.int .i64 x]))(hg:(wr.alloc o).grownBy w6 nv.ownBlock)(hcb:cb<base)(hgb:gb<base)(hne:gb≠cb):
  Ti w w5 (w6.setCell ⟨cb,1,none⟩ v1) cb gb base v1 (L++[x]) (fun v=>[a,v,b,c,d,e]):=by
 have hr:∀ g,nv.ownBlock=some g→base≤g:=fun g hg'=>(h.own.lt g hg').1
 have P1:=(h.pc.step (bR.alloc lr o)).grown hg hr hcb
 have hset:w6.grownBy (w6.setCell ⟨cb,1,none⟩ v1) (some cb):=aU (World.grownBy.refl w6 (some cb)) (.inl rfl) _
 refine⟨P1.set 1 (by simp) v1,?_,?_,?_⟩
 ·have e2:bZ (L++[x])=bZ L++[.int .i64 x]:=by simp[bZ]
  rw[e2,List.length_append,List.length_singleton]
  refine hown.kept hset ?_
  cases hq:v1.ownBlock with
  | none=>exact .inl rfl
  | some q=>right;intro he;injection he with he;have:=(hown.lt q hq).1;omega
 ·rw[Below.heap_setCell w6 ⟨cb,1,none⟩ v1 gb (by exact hne)]
  have hs:=h.sz
  rw[hg.block gb (by simp;omega) (fun e=>by have:=hr gb e.symm;omega),Below.heap_alloc wr o gb (by omega)]
  exact h.txt
 ·have:=hg.size;have h2:=hset.size;have h3:=h.sz;simp at this;omega
theorem Kf (hd:BA)(m:Nat)(hm:m<hd.size)(hz:hd.size=m+1):jR (bl hd)=if be hd[m]=true then [hd[m]] else []:=by
 have:(bl hd).getLast?=some hd[m]:=by
  rw[List.getLast?_eq_getElem?,af,hz,Nat.add_sub_cancel,gG (by rw[af];exact hm),gL hd m hm]
 unfold jR;rw[this]
theorem xu (wr:World)(b:Nat)(v0 v1 v2 v3 v4 v5:Value):wr.grownBy (mU wr b v0 v1 v2 v3 v4 v5) (some b):=
 aU (aU (aU (aU (aU (aU (World.grownBy.refl wr (some b)) (.inl rfl) _) (.inl rfl) _) (.inl rfl) _) (.inl rfl) _) (.inl rfl) _) (.inl rfl) _
theorem RK {fmt:Int}{ep pr rv hd tl h' lt pw:BA}{SP:List BA}{epn pn rvn:Nat}(h1:(if bl ep=[] then 0 else du (bl ep))=epn)(h2:du (bl rv)=rvn)
  (h3:bl hd=(Lib.cut (bl pr) [jj fmt]).1)(h4:bl tl=(Lib.cut (bl pr) [jj fmt]).2.1)(h5:ut (bl tl) 4=(bl pw,pn))(h6:bl h'=ud (bl hd))(h7:bl lt=jR (bl hd))(h8:SP.map bl=cX 46 (bl h'))(Ao:Option Addr)(co:Nat):
  nx fmt (bl ep,bl pr,bl rv)=(⟨epn,Ao,co,SP.map fun d=>du (bl d),lt,pw,pn,rvn⟩:bG).plain:=by
 rw[Mi] at h5
 unfold nx bG.plain
 simp only
 rw[←h3,←h4,h5,←h6,←h7,←h8,List.map_map,←h1,←h2]
 rfl
theorem O5 {fmt:Int}{s:BA}{x:LU×LU×LU}(hv:aV fmt s=0)(hs:bC fmt (bl s)=some x)(h:fits fmt (bl s) (nx fmt x)=false):dN fmt s=11:=by
 have:lF fmt (bl s)=none:=by unfold lF;rw[hs];simp only;rw[if_neg (by rw[h];simp)]
 unfold dN;rw[if_neg (by simpa using hv),if_pos this]
theorem O8 {fmt:Int}{s:BA}{x:LU×LU×LU}(hv:aV fmt s=0)(hs:bC fmt (bl s)=some x)(h:fits fmt (bl s) (nx fmt x)=true):dN fmt s=0∧lF fmt (bl s)=some (nx fmt x):=by
 have:lF fmt (bl s)=some (nx fmt x):=by unfold lF;rw[hs];simp only;rw[if_pos h]
 exact⟨by unfold dN;rw[if_neg (by simpa using hv),this,if_neg (by simp)],this⟩
def tp (fmt:Int)(s:BA)(w:World)(e:Ending)(w':World):Prop:=
 ∃ cl:bG,e=.returned (.tuple #[cl.val,.int .i64 (dN fmt s)])∧cl.ok w'∧cl.few∧(dN fmt s=0→lF fmt (bl s)=some cl.plain)∧Below w.heap.size w w'
def bG.zero:bG:=⟨0,none,0,[],⟨#[]⟩,⟨#[]⟩,0,0⟩
theorem bG.zero_few:bG.zero.few:=⟨by decide,by simp[bG.zero],by decide,by decide,by decide,by decide,by decide⟩
theorem xx (fmt:Int)(hfm:dk fmt)(s:BA)(w:World)(hG:Hr w)(hs:s.size≤9223372036854775807):
  Calls Tryz.prog 48 #[.int .i64 fmt,.string s] w (tp fmt s w):=by
 have HG:=ae hG;have HFM:=ae hfm
 clear hG hfm
 obtain⟨W0,hW0⟩:∃ W0,w.alloc (.cells #[.int .i64 0,.slice none 0 0,.string ⟨#[]⟩,.string ⟨#[]⟩,.int .i64 0,.int .i64 0] 95)=W0:=⟨_,rfl⟩
 have B0:Hid (Below w.heap.size w W0):=by rw[←hW0];exact bR.alloc lr _
 have K0:Hid (aF W0 w.heap.size mX):=by show aF _ _ _;rw[←hW0];exact aF.new w mX _
 go_enter Tryz.func48,Tryz.ntmps48
 go_wp2_with fail
 clear hW0
 refine(mG fmt HFM.out s _ (HG.out.below B0.out).gl hs).mono ?_;rintro e w1 ⟨ep,pr,rv,rfl,hS,hb1⟩
 have HS:=ae hS
 have B1:=ae (ah B0.out hb1)
 have K1:=ae (K0.out.below hb1)
 clear hS hb1 B0 K0
 by_cases hv:¬ aV fmt s=0
 ·have E:Hid (dN fmt s=aV fmt s):=by show _=_;unfold dN;rw[if_pos hv]
  have E0:Hid (¬ dN fmt s=0):=by show ¬ _;rw[E.out];exact hv
  have q:(aV fmt s != 0)=true:=by simpa [bne] using hv
  obtain⟨r0,r1,r2,r3,r4,r5,f0,f1,f2,f3,f4,f5⟩:=jo K1.out
  generalize aV fmt s=ve at *
  clear hv
  go_wp2_with fail
  refine bodyPost_ret (Do K1.out rfl rfl 0 none 0 0 _ _ 0 0) rfl ?_
  exact⟨bG.zero,by rw[E.out];rfl,Rd.nil _ _ _,bG.zero_few,fun h=>absurd h E0.out,iu B1.out _ _ _ _ _ _⟩
 have hv0:aV fmt s=0:=Decidable.not_not.1 hv
 obtain⟨hsp,s64,ep64,pr64,rv64⟩:=HS.out hv0
 have HNO:=ae (O5 hv0 hsp)
 have HYES:=ae (O8 hv0 hsp)
 have q:(aV fmt s != 0)=false:=by rw[hv0];rfl
 generalize aV fmt s=ve at *
 clear hv hv0 hsp HS
 obtain⟨W2,hW2⟩:∃ W2,w1.alloc (.cells #[.int .i64 0,.slice none 0 0,.string ⟨#[]⟩,.string ⟨#[]⟩,.int .i64 0,.int .i64 0] 95)=W2:=⟨_,rfl⟩
 have P0:Hid (xi w W2 w1.heap.size mX):=by
  show xi _ _ _ _;rw[←hW2]
  exact⟨ah B1.out (bR.alloc lr _),K1.out.alloc _,aF.new w1 mX _,K1.out.sz⟩
 have HCB:=ae P0.out.lo
 clear B1 K1
 obtain⟨pb,hpb⟩:∃ pb,ep.toList.isEmpty=pb:=⟨_,rfl⟩
 go_upto_if 40 with(fail)
 have HPB:=ae hpb
 clear hpb hW2
 generalize w1.heap.size=cb at *
 have hcb1:w.heap.size<cb:=HCB.out
 have hcb2:¬ w.heap.size=cb:=by omega
 have hcb3:¬ cb=w.heap.size:=by omega
 go_cut [40] (fun sl wx=>(∃ b:Bool,sl=.bool b)∧Hid (xi w wx cb [.int .i64 (if bl ep=[] then (0:Nat) else du (bl ep):Nat),.slice none 0 0,.string ⟨#[]⟩,.string ⟨#[]⟩,.int .i64 0,.int .i64 0]))
 case first=>
  cases pb
  ·have e0:¬ bl ep=[]:=by intro h;have:=HPB.out;rw[ai,h] at this;cases this
   have E:Hid ((if bl ep=[] then (0:Nat) else du (bl ep))=du (bl ep)):=by show _=_;rw[if_neg e0]
   clear e0
   have k0:=P0.out.box.cell 0 _ rfl
   have f0:=P0.out.box.free 0 (by decide)
   go_wp2_with fail
   refine(oz ep _ (by omega)).mono ?_;rintro e w' ⟨rfl,rfl⟩
   have P1:=ae (P0.out.set 0 (by decide) (.int .i64 (du (bl ep))))
   go_wp2_with fail
   go_meet
   exact⟨⟨_,rfl⟩,by rw[E.out];exact P1⟩
  ·have e0:bl ep=[]:=by have:=HPB.out;rw[ai,aL] at this;exact bj ep (dO this)
   have E:Hid ((if bl ep=[] then (0:Nat) else du (bl ep))=0):=by show _=_;rw[if_pos e0]
   clear e0
   go_wp2_with fail
   go_meet
   exact⟨⟨_,rfl⟩,by rw[E.out];exact P0⟩
 case rest=>
 obtain⟨⟨b40,rfl⟩,P1⟩:=hcut
 clear P0
 obtain⟨epn,hepn⟩:∃ n:Nat,(if bl ep=[] then 0 else du (bl ep))=n:=⟨_,rfl⟩
 have HEP:=ae hepn
 rw[hepn] at P1
 have hep2:Hid (epn≤4611686018427387903):=by show _≤_;rw[←hepn];split;omega;exact oA _
 clear hepn
 have k5:=P1.out.box.cell 5 _ rfl
 have f5:=P1.out.box.free 5 (by simp)
 go_wp2_with fail
 refine(oz rv _ (by omega)).mono ?_;rintro e w' ⟨rfl,rfl⟩
 obtain⟨rvn,hrvn⟩:∃ n:Nat,du (bl rv)=n:=⟨_,rfl⟩
 have HRV:=ae hrvn
 have hrv2:Hid (rvn≤4611686018427387903):=by show _≤_;rw[←hrvn];exact oA _
 rw[hrvn]
 clear hrvn
 have P2:Hid (xi w (wc.setCell ⟨cb,5,none⟩ (.int .i64 rvn)) cb [.int .i64 epn,.slice none 0 0,.string ⟨#[]⟩,.string ⟨#[]⟩,.int .i64 0,.int .i64 rvn]):=P1.out.set 5 (by simp) (.int .i64 rvn)
 clear P1
 go_upto_region 8 with(fail)
 clear k5 f5
 generalize wc.setCell ⟨cb,5,none⟩ (.int .i64 rvn)=W3 at *
 go_wp2_with fail
 refine(wj fmt _).mono ?_;rintro e w' ⟨rfl,rfl⟩
 go_wp2_with fail
 refine(cm pr (fa fmt) _ (HG.out.below P2.out.bel).gl (by omega)).mono ?_;rintro e w4 ⟨rfl,hb4⟩
 have P3:=ae (P2.out.step hb4)
 clear hb4 P2
 have hd64:(io pr (fa fmt)).size≤64:=by have:=qR pr (fa fmt);omega
 have tl64:(kz pr (fa fmt)).size≤64:=by
  have h1:=(Cw (bl pr) (bl (fa fmt))).2
  have h2:=af (kz pr (fa fmt));rw[gy] at h2;have h3:=af pr;omega
 have HCA:Hid (bl (io pr (fa fmt))=(Lib.cut (bl pr) [jj fmt]).1):=fc _ _
 have HCT:Hid (bl (kz pr (fa fmt))=(Lib.cut (bl pr) [jj fmt]).2.1):=gy _ _
 generalize io pr (fa fmt)=hd at *
 generalize kz pr (fa fmt)=tl at *
 generalize zx pr (fa fmt)=kk at *
 have g0:=(HG.out.below P3.out.bel).prs 0 (by omega)
 have g1:=(HG.out.below P3.out.bel).prs 1 (by omega)
 have g2:=(HG.out.below P3.out.bel).prs 2 (by omega)
 have g3:=(HG.out.below P3.out.bel).prs 3 (by omega)
 go_wp2_with fail
 clear g0 g1 g2 g3
 go_loopw [66] (fun i wr=>∃ (k pn:Nat) (pw:BA),k≤4∧i=.int .i64 k∧Hid (ut (bl tl) k=(bl pw,pn))∧Hid (pn≤4611686018427387903)∧pw.size≤1000∧Hid (xi w wr cb [.int .i64 epn,.slice none 0 0,.string ⟨#[]⟩,.string pw,.int .i64 pn,.int .i64 rvn])) (fun i _=>4-(intOf i).toNat)
 case atStart=>exact⟨0,0,⟨#[]⟩,by omega,rfl,rfl,by show _≤_;omega,by decide,P3⟩
 case round=>
  clear P3
  obtain⟨k,pn,pw,hk,rfl,HF,HPN,hpw,P4⟩:=hrel
  by_cases hlt:k<4
  ·have hix:=fun W=>UB k hlt ci W
   have vs:(ci k).size≤5:=by rcases(by omega:k=0∨k=1∨k=2∨k=3) with rfl | rfl | rfl | rfl<;>decide
   have HN:=ae (IQ (bl tl) k hlt)
   have k3:=P4.out.box.cell 3 _ rfl
   have k4:=P4.out.box.cell 4 _ rfl
   have f3:=P4.out.box.free 3 (by simp)
   have f4:=P4.out.box.free 4 (by simp)
   generalize ci k=wd at *
   cases hbg:eQ (bl tl) (bl wd)
   ·have HH:Hid (Lib.hasPrefix (bl tl) (bl wd)=false):=by show _=_;rw[←xj];exact hbg
    have E:Hid (ut (bl tl) (k+1)=(bl pw,pn)):=by show _=_;rw[HN.out,HF.out];unfold vW;rw[if_neg (by rw[hbg];simp)]
    clear hbg
    go_wp2_with fail
    refine(mz tl wd _ HH).mono ?_;rintro e w' ⟨rfl,rfl⟩
    go_wp2_with fail
    go_roundw
    case rel=>exact⟨k+1,pn,pw,by omega,by go_num,E,HPN,hpw,P4⟩
    case measure=>simp[intOf];omega
   ·have HH:Hid (Lib.hasPrefix (bl tl) (bl wd)=true):=by show _=_;rw[←xj];exact hbg
    have hex:bl (tl.extract wd.size tl.size)=(bl tl).drop (bl wd).length:=by rw[aX,af]
    have E:Hid (ut (bl tl) (k+1)=(bl wd,du (bl (tl.extract wd.size tl.size)))):=by
     show _=_;rw[HN.out,HF.out,hex];unfold vW;rw[if_pos hbg];rfl
    have exs:(tl.extract wd.size tl.size).size≤64:=by have:=af (tl.extract wd.size tl.size);rw[hex,List.length_drop] at this;have h2:=af tl;omega
    have P5:Hid (xi w (wr.setCell ⟨cb,3,none⟩ (.string wd)) cb [.int .i64 epn,.slice none 0 0,.string ⟨#[]⟩,.string wd,.int .i64 pn,.int .i64 rvn]):=P4.out.set 3 (by simp) (.string wd)
    clear hbg hex
    go_wp2_with fail
    refine(lE tl wd _ HH).mono ?_;rintro e w' ⟨rfl,rfl⟩
    go_wp2_with fail
    generalize tl.extract wd.size tl.size=dg at *
    refine(oz dg _ (by omega)).mono ?_;rintro e w' ⟨rfl,rfl⟩
    have hle:Hid (du (bl dg)≤4611686018427387903):=oA _
    generalize du (bl dg)=un at *
    have P6:Hid (xi w ((wr.setCell ⟨cb,3,none⟩ (.string wd)).setCell ⟨cb,4,none⟩ (.int .i64 un)) cb [.int .i64 epn,.slice none 0 0,.string ⟨#[]⟩,.string wd,.int .i64 un,.int .i64 rvn]):=P5.out.set 4 (by simp) (.int .i64 un)
    clear P5
    go_wp2_with fail
    go_roundw
    case rel=>exact⟨k+1,un,wd,by omega,by go_num,E,hle,by omega,P6⟩
    case measure=>simp[intOf];omega
  ·obtain rfl:k=4:=by omega
   clear hk hlt
   go_upto_region 19 with(fail)
   go_cut [95] (fun sl wx=>∃ bb:Bool,sl=.bool bb∧Hid (bb=!(jR (bl hd)).isEmpty)∧wr=wx)
   case first=>
    by_cases h0:0<hd.size
    rotate_left
    ·have d0:decide ((0:Int)<(hd.size:Int))=false:=dF (by omega)
     have d1:decide (0<hd.size)=false:=dF h0
     have E:Hid (false=!(jR (bl hd)).isEmpty):=by show _=_;rw[bj hd (by omega)];rfl
     go_wp2_with fail
     go_meet
     exact⟨false,rfl,E,rfl⟩
    ·have d0:decide ((0:Int)<(hd.size:Int))=true:=dT (by omega)
     have d1:decide (0<hd.size)=true:=dT h0
     obtain⟨m,hm⟩:∃ m,hd.size-1=m:=⟨_,rfl⟩
     have hml:m<hd.size:=by omega
     have hmi:(m:Int)<(hd.size:Int):=by omega
     have iw:IntKind.i64.wrap ((hd.size:Int)-1)=(m:Int):=by rw[IntWalk.i64_in _ (by omega)];omega
     have E:Hid (be hd[m]=!(jR (bl hd)).isEmpty):=by
      show _=_;rw[Kf hd m hml (by omega)];cases be hd[m]<;>rfl
     clear hm
     go_wp2_with fail
     refine(wh hd[m] _).mono ?_;rintro e w' ⟨rfl,rfl⟩
     go_wp2_with fail
     go_meet
     exact⟨_,rfl,E,rfl⟩
   case rest=>
   obtain⟨bb,rfl,HBB,rfl⟩:=hcut
   go_upto_if 95 with(fail)
   go_cut [13] (fun sl wx=>∃ h' lt:BA,sl=.string h'∧Hid (bl h'=ud (bl hd))∧h'.size≤64∧Hid (bl lt=jR (bl hd))∧lt.size≤64∧Hid (xi w wx cb [.int .i64 epn,.slice none 0 0,.string lt,.string pw,.int .i64 pn,.int .i64 rvn]))
   case first=>
    cases bb
    ·have L0:Hid (jR (bl hd)=[]):=by have:=HBB.out;show _=_;revert this;cases jR (bl hd)<;>simp
     go_wp2_with fail
     go_meet
     exact⟨hd,⟨#[]⟩,rfl,by show _=_;unfold ud;rw[if_pos L0.out],hd64,by show _=_;rw[L0.out];rfl,by decide,P4⟩
    ·obtain⟨m,hm⟩:∃ m,hd.size-1=m:=⟨_,rfl⟩
     have h0:0<hd.size:=by
      apply Classical.byContradiction;intro h
      have:=HBB.out;rw[bj hd (by omega)] at this;revert this;decide
     have hml:m<hd.size:=by omega
     have hmi:(m:Int)≤(hd.size:Int):=by omega
     have iw:IntKind.i64.wrap ((hd.size:Int)-1)=(m:Int):=by rw[IntWalk.i64_in _ (by omega)];omega
     have hz:Hid (hd.size=m+1):=by show _=_;omega
     have L1:Hid (jR (bl hd)=[hd[m]]):=by
      have:=HBB.out;have h2:=Kf hd m hml hz.out
      show _=_;rw[h2] at this ⊢;revert this;cases be hd[m]<;>simp
     have E1:Hid (bl (hd.extract 0 m)=ud (bl hd)):=by
      show _=_;unfold ud;rw[if_neg (by rw[L1.out];simp),bV,List.dropLast_eq_take,af,hz.out];rfl
     have E2:Hid (bl (hd.extract m hd.size)=jR (bl hd)):=by
      show _=_;rw[L1.out,aX,List.drop_eq_getElem_cons (by rw[af];exact hml),gL hd m hml,List.drop_of_length_le (by rw[af,hz.out];omega)]
     have z1:(hd.extract 0 m).size≤64:=by have:=af (hd.extract 0 m);rw[bV,List.length_take,af] at this;omega
     have z2:(hd.extract m hd.size).size≤64:=by have:=af (hd.extract m hd.size);rw[aX,List.length_drop,af] at this;omega
     have k2:=P4.out.box.cell 2 _ rfl
     have f2:=P4.out.box.free 2 (by simp)
     have P5:Hid (xi w (wr.setCell ⟨cb,2,none⟩ (.string (hd.extract m hd.size))) cb [.int .i64 epn,.slice none 0 0,.string (hd.extract m hd.size),.string pw,.int .i64 pn,.int .i64 rvn]):=P4.out.set 2 (by simp) (.string (hd.extract m hd.size))
     clear hm
     go_wp2_with fail
     go_region
     go_wp2_with fail
     go_meet
     exact⟨_,_,rfl,E1,z1,E2,z2,P5.out.step (bJ bR 1)⟩
   case rest=>
   obtain⟨h',lt,rfl,HH,hh64,HLT,hlt64,P5⟩:=hcut
   clear P4
   obtain⟨i0,hi,hz0,hz1,hz2⟩:=info_parts rH
   go_wp2_with fail
   refine(OY 46 h' _ (HG.out.below P5.out.bel).gl (by omega)).mono ?_;rintro e w5 ⟨rfl,hrd,hb5⟩
   have P6:=ae (P5.out.step hb5)
   have hgs:=P5.out.box.sz
   have hsp1:(fe 46 h').length≤65:=by unfold fe;rw[List.length_map];have:=xg 46 (bl h');rw[af] at this;omega
   have HSM:Hid (∀ x∈fe 46 h',x.size≤64):=by
    intro x hx;obtain⟨p,hp,rfl⟩:=List.mem_map.1 hx
    have h1:=mF 46 (bl h') p hp;have h2:=af h';have h3:=af (⟨p.toArray⟩:BA);rw[gI] at h3;omega
   have HSB:Hid ((fe 46 h').map bl=cX 46 (bl h')):=by
    show _=_;unfold fe;rw[List.map_map]
    conv=>rhs;rw[←List.map_id (cX 46 (bl h'))]
    exact List.map_congr_left fun p _=>gI p
   generalize wc.heap.size=gb at *
   have hne0:0<(fe 46 h').length:=by unfold fe;rw[List.length_map];exact List.length_pos_iff.2 (Aq 46 _)
   have RD:=ae hrd
   have hgb5:gb<w5.heap.size:=by
    obtain⟨x,hx⟩:∃ x,(fe 46 h')[0]?=some x:=⟨_,gG hne0⟩
    obtain⟨b,off,hA,he⟩:=hrd.str 0 x hx
    have:=World.block_lt_of_cell? _ _ he
    injection hA with hA;injection hA with h1 _ _;subst h1;exact this
   have hcb5:cb<w5.heap.size:=P6.out.box.sz
   have hgne:gb≠cb:=by omega
   clear hrd hb5 P5
   obtain⟨SP,hSP⟩:∃ SP,fe 46 h'=SP:=⟨_,rfl⟩
   rw[hSP] at RD HSM HSB hsp1 hne0
   rw[hSP]
   clear hSP
   obtain⟨base,hbase⟩:∃ base,w5.heap.size=base:=⟨_,rfl⟩
   have N0:Hid (Ti w w5 w5 cb gb base (.slice none 0 0) [] (fun v=>[.int .i64 epn,v,.string lt,.string pw,.int .i64 pn,.int .i64 rvn])):=
    ⟨P6.out,World.ownsRow_nil _ _ _ _,rfl,by omega⟩
   rw[hbase] at hgb5 hcb5
   clear hbase P6
   go_wp2_with fail
   go_loopw [108] (fun i wr=>∃ (k:Nat) (Ao:Option Addr) (co:Nat),k≤SP.length∧i=.int .i64 k∧Hid (Ti w w5 wr cb gb base (.slice Ao k co) ((SP.take k).map fun d=>du (bl d)) (fun v=>[.int .i64 epn,v,.string lt,.string pw,.int .i64 pn,.int .i64 rvn]))) (fun i _=>SP.length-(intOf i).toNat)
   case atStart=>exact⟨0,none,0,z0,rfl,N0⟩
   case round=>
    clear N0
    obtain⟨k,Ao,co,hk,rfl,NS⟩:=hrel
    by_cases hlt:k<SP.length
    ·obtain⟨x,hx⟩:∃ x,SP[k]?=some x:=⟨_,gG hlt⟩
     obtain⟨b,off,hA,he⟩:=RD.out.str k x hx
     obtain⟨rfl,rfl⟩:gb=b∧0=off:=by injection hA with hA;injection hA with h1 h2 _;exact⟨h1,h2⟩
     have e0:wr.cell? ⟨gb,0+k,none⟩=some (.string x):=(World.cell?_of_block (a:=⟨gb,0+k,none⟩) NS.out.txt).trans he
     have hix:=fun W=>aH (T:=25) (E:=9) (sz:=1) (c:=SP.length) Tryz.underlying25 rfl Tryz.sizeOf9 hA hlt W
     simp only[Nat.mul_one,Nat.zero_add] at hix e0
     have hxs:=HSM.out x (gM hx)
     have TK:Hid ((SP.take (k+1)).map (fun d=>du (bl d))=(SP.take k).map (fun d=>du (bl d))++[du (bl x)]):=by
      show _=_;obtain⟨hk',hx'⟩:=gS hx;rw[tS hk',hx'];simp
     have LK:Hid (((SP.take k).map fun d=>du (bl d)).length=k):=by show _=_;rw[List.length_map,List.length_take];omega
     clear hx hA he
     go_wp2_with fail
     refine(oz x _ (by omega)).mono ?_;rintro e w' ⟨rfl,rfl⟩
     clear e0 hix
     obtain⟨un,hun⟩:∃ un,du (bl x)=un:=⟨_,rfl⟩
     rw[hun] at TK
     rw[hun]
     clear hun
     obtain⟨LL,hLL⟩:∃ LL,(SP.take k).map (fun d=>du (bl d))=LL:=⟨_,rfl⟩
     rw[hLL] at NS TK LK
     clear hLL
     have k1:=NS.out.pc.box.cell 1 _ rfl
     have f1:=NS.out.pc.box.free 1 (by simp)
     have HO:Hid (wr.ownsRow base 3 1 (.slice Ao k co) k (bZ LL)):=by have:=NS.out.own;rw[LK.out] at this;exact this
     have hbs:=NS.out.sz
     have hcz:=NS.out.pc.box.sz
     have FB:Hid (some cb≠(Value.slice Ao k co).ownBlock):=by intro e;have:=(HO.out.lt cb e.symm).1;omega
     go_wp2_with (
      at_builtin
      refine ak _ rfl _ _ _ rfl base 3 i0 _ 1 8 Tryz.underlying93 hi hz0 hz1 hz2 rfl (by omega) (.slice Ao k co) k _ rfl (HO.out.alloc _) (wr.heap.size+1) (some ⟨wr.heap.size,0,none⟩) 1 1 [.int .i64 un] rfl (xm wr _) (by simp[Value.oneCell']) (by simp only[maxLen];omega) (by omega) (by simp;omega) ?_
      intro v1 w6 hown1 hg1 hat1
      obtain⟨A1,c1,rfl⟩:=aG hown1
      have k1':w6.cell? ⟨cb,1,none⟩=some (.slice Ao k co):=hg1.cell ((World.cell?_alloc_lt wr _ ⟨cb,1,none⟩ hcz).trans k1) FB.out
      have f1':w6.frozen? ⟨cb,1,none⟩=false:=(World.frozen?_of_block (a:=⟨cb,1,none⟩) (hg1.block cb (by simp;omega) FB.out)).trans (((bR.alloc lr _).frozen (p:=⟨cb,1,none⟩) hcz).trans f1))
     have N1:=ae (NS.out.app _ (x:=un) (by rw[LK.out];exact hown1) hg1 hcb5 hgb5 hgne)
     clear hown1 hg1 hat1 k1 f1 k1' f1'
     go_wp2_with fail
     go_roundw
     case rel=>exact⟨k+1,A1,c1,by omega,by go_num,by rw[TK.out];exact N1⟩
     case measure=>simp[intOf];omega
    ·obtain rfl:k=SP.length:=by omega
     obtain⟨NL,hNL⟩:∃ NL,SP.map (fun d=>du (bl d))=NL:=⟨_,rfl⟩
     have HC:=ae (RK (fmt:=fmt) (ep:=ep) (pr:=pr) (rv:=rv) HEP.out HRV.out HCA.out HCT.out HF.out HH.out HLT.out HSB.out Ao co)
     rw[List.take_length,hNL] at NS
     rw[hNL] at HC
     have hl:SP.length=NL.length:=by rw[←hNL,List.length_map]
     have HNE:Hid (∀ n∈NL,n≤4611686018427387903):=by
      intro n hn;rw[←hNL] at hn;obtain⟨d,_,rfl⟩:=List.mem_map.1 hn;exact oA _
     have hnl:NL.length≤65:=by omega
     rw[hl] at NS
     have k0:=NS.out.pc.box.cell 0 _ rfl
     have k1:=NS.out.pc.box.cell 1 _ rfl
     have k2:=NS.out.pc.box.cell 2 _ rfl
     have k3:=NS.out.pc.box.cell 3 _ rfl
     have k4:=NS.out.pc.box.cell 4 _ rfl
     have k5:=NS.out.pc.box.cell 5 _ rfl
     have FEW:Hid ((⟨epn,Ao,co,NL,lt,pw,pn,rvn⟩:bG).few):=⟨hep2.out,HNE.out,by show NL.length≤1000;omega,by show lt.size≤1000;omega,hpw,HPN.out,hrv2.out⟩
     clear hNL hl
     go_wp2_with fail
     refine(xf fmt HFM.out ⟨epn,Ao,co,NL,lt,pw,pn,rvn⟩ _ (HG.out.below NS.out.pc.bel) (bA NS.out.own) FEW.out).mono ?_;rintro e w7 ⟨rfl,hb7⟩
     have P7:=ae (NS.out.pc.step hb7)
     have O7:=ae (aR NS.out.own hb7)
     clear k0 k1 k2 k3 k4 k5 hb7
     obtain⟨r0,r1,r2,r3,r4,r5,f0,f1,f2,f3,f4,f5⟩:=jo P7.out.res
     cases hpb2:ct fmt (⟨epn,Ao,co,NL,lt,pw,pn,rvn⟩:bG).plain
     ·have E:Hid (dN fmt s=11):=HNO.out (by rw[HC.out];unfold fits;rw[hpb2];rfl)
      rw[nI hpb2]
      clear hpb2
      go_wp2_with fail
      refine bodyPost_ret (Do P7.out.res rfl rfl 0 none 0 0 _ _ 0 0) rfl ?_
      exact⟨bG.zero,by rw[E.out];rfl,Rd.nil _ _ _,bG.zero_few,(fun h=>by rw[E.out] at h;cases h),iu P7.out.bel _ _ _ _ _ _⟩
     ·rw[rI hpb2]
      have HPB2:=ae hpb2
      clear hpb2
      obtain⟨T,hT⟩:∃ T:BA,(⟨(aN fmt (⟨epn,Ao,co,NL,lt,pw,pn,rvn⟩:bG).plain).toArray⟩:BA)=T:=⟨_,rfl⟩
      have hTB:Hid (aN fmt (⟨epn,Ao,co,NL,lt,pw,pn,rvn⟩:bG).plain=bl T):=by show _=_;rw[←hT,gI]
      rw[hT]
      clear hT
      obtain⟨tb,htb⟩:∃ tb,(T.toList==s.toList)=tb:=⟨_,rfl⟩
      have HTB:=ae htb
      cases tb
      ·have E:Hid (dN fmt s=11):=HNO.out (by
        rw[HC.out];unfold fits;rw[HPB2.out,hTB.out]
        have:¬ bl T=bl s:=by intro h;have h2:=HTB.out;rw[fZ] at h2;exact of_decide_eq_false h2 (dp h)
        rw[dF this];rfl)
       go_wp2_with fail
       refine bodyPost_ret (Do P7.out.res rfl rfl 0 none 0 0 _ _ 0 0) rfl ?_
       exact⟨bG.zero,by rw[E.out];rfl,Rd.nil _ _ _,bG.zero_few,(fun h=>by rw[E.out] at h;cases h),iu P7.out.bel _ _ _ _ _ _⟩
      ·have E:=ae (HYES.out (by
        rw[HC.out];unfold fits;rw[HPB2.out,hTB.out]
        have:bl T=bl s:=by have h2:=HTB.out;rw[fZ] at h2;rw[dO h2]
        rw[dT this];rfl))
       have k0:=P7.out.box.cell 0 _ rfl
       have k1:=P7.out.box.cell 1 _ rfl
       have k2:=P7.out.box.cell 2 _ rfl
       have k3:=P7.out.box.cell 3 _ rfl
       have k4:=P7.out.box.cell 4 _ rfl
       have k5:=P7.out.box.cell 5 _ rfl
       go_wp2_with fail
       refine bodyPost_ret (Do P7.out.res rfl rfl epn Ao NL.length co lt pw pn rvn) rfl ?_
       refine⟨⟨epn,Ao,co,NL,lt,pw,pn,rvn⟩,by rw[E.out.1];rfl,?_,FEW.out,(fun _=>by rw[E.out.2,HC.out]),iu P7.out.bel _ _ _ _ _ _⟩
       refine bA (O7.out.kept (xu w7 w.heap.size _ _ _ _ _ _) ?_)
       cases hq:(Value.slice Ao NL.length co).ownBlock with
       | none=>exact .inl rfl
       | some g=>right;intro he;injection he with he;have:=(O7.out.lt g hq).1;omega
end
end Go.Proofs.YtkjdbpjglobbjaaGreatDoor
