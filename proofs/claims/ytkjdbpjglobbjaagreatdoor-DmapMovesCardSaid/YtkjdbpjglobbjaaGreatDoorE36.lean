/- A part of the proof of a law on dependencies in three formats. No condition. -/
import Derived.Test.YtkjdbpjglobbjaaGreatDoorE15
import Derived.Test.YtkjdbpjglobbjaaGreatDoorE35
set_option maxRecDepth 100000
set_option maxHeartbeats 20000000
set_option linter.unusedVariables false
set_option linter.unusedSimpArgs false
namespace Go.Proofs.YtkjdbpjglobbjaaGreatDoor
section
open Go.RowKit
theorem xC (f:FuncId)(p:aA→Bool)(A:Option Addr)(c:Nat)(l:List aA)(w:World)(hr:Rd w 3 A l.length (l.flatMap aA.cells))(hl:l.length≤1000000)
  (hcall:∀ (args:Array Value)(w:World),(callFunc f args).run Tryz.prog w=.ok (.enter f args) w)
  (hf:Hid (∀ g∈l,∀ W,Below w.heap.size w W→Calls Tryz.prog f #[g.val] W fun e w'=>e=.returned (.bool (p g))∧Below W.heap.size W w')):
  Calls Tryz.prog 46 #[.slice A l.length c,.func (.func f) #[] #[]] w fun e w'=>e=.returned (.int .i64 (qy p l 0))∧Below w.heap.size w w':=by
 have HR:=ae hr
 clear hr
 go_enter Tryz.func46,Tryz.ntmps46
 go_wp2_with fail
 go_loopw [8] (fun i wr=>∃ k:Nat,k≤l.length∧i=.int .i64 k∧Hid (∀ y∈l.take k,p y=false)∧Hid (Below w.heap.size w wr)) (fun i _=>l.length-(intOf i).toNat)
 case atStart=>exact⟨0,z0,rfl,by simp[Hid],bR⟩
 case round=>
  obtain⟨k,hk,rfl,HN,HB⟩:=hrel
  by_cases hlt:k<l.length
  ·obtain⟨x,hx⟩:∃ x,l[k]?=some x:=⟨_,gG hlt⟩
   obtain⟨b,off,hA,he⟩:=(HR.out.below HB.out).elem dw k x hx
   have e0:=he 0 _ rfl
   have e1:=he 1 _ rfl
   have e2:=he 2 _ rfl
   simp only[Nat.add_zero] at e0
   have hix:=fun W=>aH (T:=31) (E:=53) (sz:=3) (c:=c) Tryz.underlying31 rfl Tryz.sizeOf53 hA hlt W
   have HX:=ae hx
   have HF:=ae (fun W hb=>hf.out x (gM hx) W hb)
   unfold aA.val at HF
   clear hx hA he
   go_wp2_with fail
   refine(HF.out _ HB.out).mono ?_;rintro e w1 ⟨rfl,hb1⟩
   have B1:=ae (ah HB.out hb1)
   clear hb1 e0 e1 e2 hix HF
   cases hp:p x
   ·have HP:=ae hp
    clear hp
    go_wp2_with fail
    go_roundw
    case rel=>exact⟨k+1,by omega,by go_num,ae (fun y hy=>by
     rw[aS HX.out] at hy
     rcases List.mem_append.1 hy with hy | hy
     ·exact HN.out y hy
     ·rw[List.mem_singleton.1 hy];exact HP.out),B1⟩
    case measure=>simp[intOf];omega
   ·have E:Hid (qy p l 0=k):=by show _=_;rw[oD HX.out HN.out hp];omega
    clear hp
    go_wp2_with fail
    go_ret
    exact⟨az E.out.symm,B1.out⟩
  ·have E:Hid (qy p l 0=-1):=kM 0 (fun y hy=>HN.out y (by rw[tL (by omega)];exact hy))
   go_wp2_with fail
   go_ret
   exact⟨az E.out.symm,HB.out⟩
theorem rQ (f:FuncId)(p:aA→Bool)(A:Option Addr)(c:Nat)(l:List aA)(w:World)(hr:Rd w 3 A l.length (l.flatMap aA.cells))(hl:l.length≤1000000)
  (hcall:∀ (args:Array Value)(w:World),(callFunc f args).run Tryz.prog w=.ok (.enter f args) w)
  (hf:Hid (∀ g∈l,∀ W,Below w.heap.size w W→Calls Tryz.prog f #[g.val] W fun e w'=>e=.returned (.bool (p g))∧Below W.heap.size W w')):
  Calls Tryz.prog 29 #[.slice A l.length c,.func (.func f) #[] #[]] w fun e w'=>e=.returned (.bool (l.any p))∧Below w.heap.size w w':=by
 have HI:=ae (xC f p A c l w hr hl hcall hf)
 have HE:=ae (mJ p l 0 (by omega))
 generalize qy p l 0=ix at *
 clear hr hf
 go_enter Tryz.func29,Tryz.ntmps29
 go_wp2_with fail
 refine HI.out.mono ?_;rintro e w1 ⟨rfl,hb1⟩
 have B1:=ae hb1
 clear hb1
 go_wp2_with fail
 go_ret
 exact⟨am HE.out,B1.out⟩
theorem FO (g:aA)(w:World)(h1:g.nm.size≤9223372036854775807):
  Calls Tryz.prog 27 #[g.val] w fun e w'=>e=.returned (.bool (!bo (bl g.nm)))∧Below w.heap.size w w':=by
 have HN:=ae fun W=>jh g.nm W h1
 have HB:Hid (Below w.heap.size w (w.alloc (.cells #[.string g.nm,.int .i64 g.op,.string g.ver] 53))):=bR.alloc lr _
 unfold aA.val
 go_enter Tryz.func27,Tryz.ntmps27
 go_wp2_with fail
 refine(HN.out _).mono ?_;rintro e w' ⟨rfl,rfl⟩
 go_wp2_with fail
 go_ret
 exact⟨rfl,HB.out⟩
theorem Bp:(Tryz.prog.info? 48).map (fun i=>(i.zero,i.size,i.bytes))=some (some (.agg #[.string ⟨#[]⟩,.string ⟨#[]⟩,.slice none 0 0]),3,56):=by kernel_rfl
def aB.own (x:aB)(w:World)(lo:Nat):Prop:=w.ownsRow lo 53 3 (.slice x.ga x.gives.length x.gc) x.gives.length (x.gives.flatMap aA.cells)
structure Hs (w wr:World) (out:List aB) (A:Option Addr) (n c:Nat):Prop where
 len:out.length=n
 row:wr.ownsRow w.heap.size 48 3 (.slice A n c) n (out.flatMap aB.cells)
 gv:∀ x∈out,x.own wr w.heap.size
 bel:Below w.heap.size w wr
theorem Hs.start (w:World):Hs w w [] none 0 0:=⟨rfl,World.ownsRow_nil _ _ _ _,by simp,bR⟩
theorem Hs.below {w wr w':World}{out:List aB}{A:Option Addr}{n c:Nat}(h:Hs w wr out A n c)(hb:Below wr.heap.size wr w'):Hs w w' out A n c:=
 ⟨h.len,aR h.row hb,fun x hx=>aR (h.gv x hx) hb,ah h.bel hb⟩
theorem Hs.grow {w wr w2:World}{out:List aB}{A A1:Option Addr}{n c c1:Nat}{o:Obj}{x:aB}(h:Hs w wr out A n c)(hx:x.own wr w.heap.size)
  (hr:w2.ownsRow w.heap.size 48 3 (.slice A1 (n+1) c1) (n+1) (out.flatMap aB.cells++x.cells))
  (hg:(wr.alloc o).grownBy w2 (Value.slice A n c).ownBlock):Hs w w2 (out++[x]) A1 (n+1) c1:=by
 have hb:=(Below.refl wr.heap.size wr).alloc lr o
 have ho:=h.below hb
 have hx':x.own (wr.alloc o) w.heap.size:=aR hx hb
 refine⟨by simp[h.len],by rw[List.flatMap_append];simpa using hr,fun t ht=>?_,ho.bel.grown hg ho.bel.size (fun j hj=>(ho.row.lt j hj).1)⟩
 rcases List.mem_append.1 ht with ht | ht
 ·exact da (ho.gv t ht) ho.row (by decide) hg
 ·obtain rfl:=List.mem_singleton.1 ht
  exact da hx' ho.row (by decide) hg
theorem Hs.ok {w wr:World}{out:List aB}{A:Option Addr}{n c:Nat}(h:Hs w wr out A n c):kF wr A out:=⟨by rw[h.len];exact bA h.row,fun x hx=>bA (h.gv x hx)⟩
structure Ki (W0 wr:World) (qb B1:Nat) (nm ver:BA) (G:Option Addr) (m cc:Nat) (L:List aA) (ps:List Value):Prop where
 bel:Below W0.heap.size W0 wr
 old:aF wr W0.heap.size ps
 box:aF wr qb [.string nm,.string ver,.slice G m cc]
 own:wr.ownsRow B1 53 3 (.slice G m cc) m (L.flatMap aA.cells)
 len:L.length=m
 lo:W0.heap.size<qb
 hi:qb<B1
 sz:B1≤wr.heap.size
theorem Ki.step {W0 wr w':World}{qb B1:Nat}{nm ver:BA}{G:Option Addr}{m cc:Nat}{L:List aA}{ps:List Value}(h:Ki W0 wr qb B1 nm ver G m cc L ps)(hb:Below wr.heap.size wr w'):Ki W0 w' qb B1 nm ver G m cc L ps:=
 ⟨ah h.bel hb,h.old.below hb,h.box.below hb,aR h.own hb,h.len,h.lo,h.hi,Nat.le_trans h.sz hb.size⟩
theorem Ki.app {W0 wr w6:World}{qb B1:Nat}{nm ver:BA}{G G1:Option Addr}{m cc c1:Nat}{L:List aA}{ps:List Value}{x:aA}(h:Ki W0 wr qb B1 nm ver G m cc L ps)(o:Obj)
  (hown:w6.ownsRow B1 53 3 (.slice G1 (m+1) c1) (m+1) (L.flatMap aA.cells++x.cells))(hg:(wr.alloc o).grownBy w6 (Value.slice G m cc).ownBlock):
  Ki W0 (w6.setCell ⟨qb,2,none⟩ (.slice G1 (m+1) c1)) qb B1 nm ver G1 (m+1) c1 (L++[x]) ps:=by
 have lo:=h.lo;have hi:=h.hi;have sz:=h.sz
 have hr:∀ g,(Value.slice G m cc).ownBlock=some g→B1≤g:=fun g hg'=>(h.own.lt g hg').1
 have q1:some qb≠(Value.slice G m cc).ownBlock:=fun e=>by have:=hr qb e.symm;omega
 have p1:some W0.heap.size≠(Value.slice G m cc).ownBlock:=fun e=>by have:=hr _ e.symm;omega
 have hset:w6.grownBy (w6.setCell ⟨qb,2,none⟩ (.slice G1 (m+1) c1)) (some qb):=aU (World.grownBy.refl w6 (some qb)) (.inl rfl) _
 refine⟨aw ((h.bel.alloc h.bel.size o).grown hg (by have:=h.bel.size;simp;omega) (fun j hj=>by have:=hr j hj;omega)) (by omega) _,?_,?_,?_,by simp[h.len],lo,hi,?_⟩
 ·exact((h.old.alloc o).grownR hg p1).far (by omega) _
 ·exact((h.box.alloc o).grownR hg q1).set 2 (by simp) _
 ·rw[List.flatMap_append]
  have:=oE (j:=2) hown hi (.slice G1 (m+1) c1)
  simpa using this
 ·have h1:=hg.size;have h2:=hset.size;simp at h1;omega
theorem Ki.inst {W0 wr:World}{qb B1:Nat}{nm ver:BA}{G:Option Addr}{m cc:Nat}{L:List aA}{ps:List Value}{w:World}(h:Ki W0 wr qb B1 nm ver G m cc L ps)(hw:w.heap.size≤B1):(⟨nm,ver,G,cc,L⟩:aB).own wr w.heap.size:=by
 unfold aB.own;simp only;rw[h.len];exact cN h.own hw
theorem Ki.cells {W0 wr:World}{qb B1:Nat}{nm ver:BA}{G:Option Addr}{m cc:Nat}{L:List aA}{ps:List Value}(h:Ki W0 wr qb B1 nm ver G m cc L ps):(⟨nm,ver,G,cc,L⟩:aB).cells=[.string nm,.string ver,.slice G m cc]:=by
 unfold aB.cells;simp only;rw[h.len]
structure xF (l:List aB):Prop where
 len:l.length≤1000
 nm:∀ x∈l,x.nm.size≤1000
 ver:∀ x∈l,x.ver.size≤1000
 gv:∀ x∈l,x.gives.length≤1000
 gnm:∀ x∈l,∀ g∈x.gives,g.nm.size≤1000
 gver:∀ x∈l,∀ g∈x.gives,g.ver.size≤1000
theorem fS {a b:Int}{l:List aB}(ha:dk a)(hb:dk b){k:Nat}{x:aB}(hx:l[k]?=some x)(h0:∀ y∈l.take k,eA a b y.plain=0){e:Int}(he:eA a b x.plain=e)(hne:e≠0):
  dC a b (l.map aB.plain)=e∧fD a b (l.map aB.plain)=[]:=by
 have h1:dC a b (l.map aB.plain)=e:=by
  unfold dC
  rw[if_neg (by rintro(h | h);exact h ha;exact h hb)]
  rw[wg (x:=x.plain) (k:=k) (by simp[hx]) ?_ (by rw[he];exact hne),he]
  intro i y hi hy
  rw[List.getElem?_map] at hy
  obtain⟨z,hz,rfl⟩:=Option.map_eq_some_iff.1 hy
  exact h0 z (gM (i:=i) (by rw[List.getElem?_take_of_lt hi];exact hz))
 exact⟨h1,by unfold fD;rw[if_neg (by rw[h1];exact hne)]⟩
theorem xG {a b:Int}{l:List aB}(ha:dk a)(hb:dk b)(h0:∀ y∈l,eA a b y.plain=0):
  dC a b (l.map aB.plain)=0∧fD a b (l.map aB.plain)=(l.map aB.plain).map (dG a b):=by
 have h1:dC a b (l.map aB.plain)=0:=by
  unfold dC
  rw[if_neg (by rintro(h | h);exact h ha;exact h hb)]
  exact ny (fun y hy=>by obtain⟨z,hz,rfl⟩:=List.mem_map.1 hy;exact h0 z hz)
 exact⟨h1,by unfold fD;rw[if_pos h1]⟩
theorem qz {a b:Int}{l:List bW}(h:¬ dk a∨¬ dk b):dC a b l=9∧fD a b l=[]:=by
 have h1:dC a b l=9:=by unfold dC;rw[if_pos h]
 exact⟨h1,by unfold fD;rw[if_neg (by rw[h1];decide)]⟩
theorem dY {a b:Int}{l:List bW}{w w':World}{e:Int}(h:dC a b l=e∧fD a b l=[])(hb:Below w.heap.size w w'):sQ a b l w (.returned (.tuple #[.slice none 0 0,.int .i64 e])) w':=
 ⟨none,0,[],by rw[h.1];rfl,⟨Rd.nil _ _ _,by simp⟩,by rw[h.2];rfl,hb⟩
theorem Bq {a b:Int}{x:bW}(h:bo (bl x.nm)=false):eA a b x=10:=by unfold eA gg;rw[h];rfl
theorem xH {a b:Int}{x:bW}{g:aA}(hg:g∈x.gives)(h:bo (bl g.nm)=false):eA a b x=10:=by
 unfold eA gg
 rw[if_pos]
 rw[Bool.and_eq_false_iff];right
 rw[List.all_eq_false];exact⟨g,hg,by rw[h];simp⟩
theorem Ga {a b:Int}{x:bW}(h:gg x.nm x.gives=true)(ht:(trans a b x.ver).2≠0):eA a b x=11:=by unfold eA;rw[if_neg (by rw[h];simp),if_pos ht]
theorem oG {a b:Int}{x:bW}(h:gg x.nm x.gives=true)(ht:(trans a b x.ver).2=0){g:aA}(hg:g∈x.gives)(he:iy a b g≠0):eA a b x=11:=by
 unfold eA
 rw[if_neg (by rw[h];simp),if_neg (by simpa using ht),if_pos]
 rw[List.all_eq_false];exact⟨g,hg,by simpa using he⟩
theorem Kj {a b:Int}{x:bW}(h:gg x.nm x.gives=true)(ht:(trans a b x.ver).2=0)(hg:∀ g∈x.gives,iy a b g=0):eA a b x=0:=by
 unfold eA
 rw[if_neg (by rw[h];simp),if_neg (by simpa using ht),if_neg]
 rw[Bool.not_eq_false,List.all_eq_true]
 intro g hm;exact dT (hg g hm)
end
section
open Go.ChangeShapes Go.WideShapes Go.Deep Go.RowKit
structure aB.fits (x:aB):Prop where
 nm:x.nm.size≤9223372036854775807
 ver:x.ver.size≤9223372036854775807
 len:x.gives.length≤9223372036854775807
 each:∀ g∈x.gives,yM g
section
variable {H : Type} {enc : TypeId × Value → H} {w : World} {spare : Nat → Bool}
theorem GU {fuel:Nat}{v:Value}{d:DataW H×List MemPlace}(h:DataW.trod enc Tryz.prog w 0 spare true fuel 36 [v]=some d):
  ∃ (A:Option Addr) (c:Nat) (l:List aB),v=.slice A l.length c∧kF w A l∧(∀ x∈l,x.fits)∧l.length≤9223372036854775807:=by
 obtain⟨A,c,l,h1,h2,h3,h4,_⟩:=tK Tryz.underlying36 Tryz.underlying48 (by kernel_rfl) (by kernel_rfl) (by decide) aB.cells (fun x=>Rd w 3 x.ga x.gives.length (x.gives.flatMap aA.cells)∧x.fits) (fun _=>rfl) (fun n vs hv=>by
  obtain⟨y0,h0⟩:=hv 0 _ rfl
  obtain⟨y1,h1⟩:=hv 1 _ rfl
  obtain⟨y2,h2⟩:=hv 2 _ rfl
  obtain⟨s0,e0,z0⟩:=sq h0
  obtain⟨s1,e1,z1⟩:=sq h1
  obtain⟨a2,c2,l2,e2,r2,x2,n2,k2⟩:=yN h2
  refine⟨⟨s0,s1,a2,c2,l2⟩,⟨r2,⟨z0,z1,n2,x2⟩⟩,fun j hj=>?_⟩
  have hj':j<3:=hj
  rcases(by omega:j=0∨j=1∨j=2) with rfl | rfl | rfl
  ·rw[e0];rfl
  ·rw[e1];rfl
  ·rw[e2];rfl) h
 exact⟨A,c,l,h1,⟨h2,fun p hp=>(h3 p hp).1⟩,fun p hp=>(h3 p hp).2,h4⟩
end
end
section
open Go.RowKit
theorem qL (a b:Int)(A:Option Addr)(c:Nat)(l:List aB)(w:World)(hG:Hr w)(hs:kF w A l)(hf:xF l):
  Calls Tryz.prog 12 #[.int .i64 a,.int .i64 b,.slice A l.length c] w (sQ a b (l.map aB.plain) w):=by
 obtain⟨i0,hi,hz0,hz1,hz2⟩:=info_parts Bp
 obtain⟨i1,hj,hy0,hy1,hy2⟩:=info_parts mg
 have HG:=ae hG;have HS:=ae hs;have HF:=ae hf
 have hll:=hf.len
 clear hG hs hf
 have HNA:=ae fun W=>fR a W
 have HNB:=ae fun W=>fR b W
 by_cases ha:¬ dk a
 ·have E:=ae (qz (l:=l.map aB.plain) (.inl ha:¬ dk a∨¬ dk b))
  rw[dF ha] at HNA
  clear ha
  go_enter Tryz.func12,Tryz.ntmps12
  go_wp2_with fail
  refine(HNA.out _).mono ?_;rintro e w' ⟨rfl,rfl⟩
  go_wp2_with fail
  go_ret2
  exact dY E.out bR
 have ha1:dk a:=Decidable.not_not.1 ha
 rw[dT ha1] at HNA
 have HA:=ae ha1
 clear ha ha1
 by_cases hb:¬ dk b
 ·have E:=ae (qz (l:=l.map aB.plain) (.inr hb:¬ dk a∨¬ dk b))
  rw[dF hb] at HNB
  clear hb
  go_enter Tryz.func12,Tryz.ntmps12
  go_wp2_with fail
  refine(HNA.out _).mono ?_;rintro e w' ⟨rfl,rfl⟩
  go_wp2_with fail
  refine(HNB.out _).mono ?_;rintro e w' ⟨rfl,rfl⟩
  go_wp2_with fail
  go_ret2
  exact dY E.out bR
 have hb1:dk b:=Decidable.not_not.1 hb
 rw[dT hb1] at HNB
 have HB:=ae hb1
 clear hb hb1
 go_enter Tryz.func12,Tryz.ntmps12
 go_wp2_with fail
 refine(HNA.out _).mono ?_;rintro e w' ⟨rfl,rfl⟩
 go_wp2_with fail
 refine(HNB.out _).mono ?_;rintro e w' ⟨rfl,rfl⟩
 go_wp2_with fail
 go_loopw [8,29] (fun s8 s29 wr=>∃ (k:Nat) (O:Option Addr) (n oc:Nat) (out:List aB),s8=.slice O n oc∧s29=.int .i64 k∧k≤l.length∧n≤l.length∧n≤k∧Hid (∀ y∈l.take k,eA a b y.plain=0)∧Hid (out.map aB.plain=(l.take k).map fun y=>dG a b y.plain)∧Hid (Hs w wr out O n oc)) (fun _ i _=>l.length-(intOf i).toNat)
 case atStart=>exact⟨0,none,0,0,[],rfl,rfl,z0,z0,z0,by simp[Hid],rfl,Hs.start w⟩
 case round=>
  obtain⟨k,O,n,oc,out,rfl,rfl,hk,hn,hnk,HN,HO,M0⟩:=hrel
  by_cases hlt:k<l.length
  ·obtain⟨x,hx⟩:∃ x,l[k]?=some x:=⟨_,gG hlt⟩
   have hm:=gM hx
   obtain⟨bk,off,hA,he⟩:=(HS.out.row.below M0.out.bel).elem lQ k x hx
   have e0:=he 0 _ rfl
   have e1:=he 1 _ rfl
   have e2:=he 2 _ rfl
   simp only[Nat.add_zero] at e0
   have hix:=fun W=>aH (T:=36) (E:=48) (sz:=3) (c:=c) Tryz.underlying36 rfl Tryz.sizeOf48 hA hlt W
   have HX:=ae hx
   have zn:=HF.out.nm x hm;have zv:=HF.out.ver x hm;have zg:=HF.out.gv x hm
   have ZGN:=ae (HF.out.gnm x hm);have ZGV:=ae (HF.out.gver x hm)
   have HGR:=ae (HS.out.all x hm)
   clear hx hA he hm
   obtain⟨wo,rfl⟩:∃ wo:World,wo=wr:=⟨_,rfl⟩
   obtain⟨W0,hW0⟩:∃ W0,wo.alloc (.cells #[.string x.nm,.string x.ver,.slice x.ga x.gives.length x.gc] 48)=W0:=⟨_,rfl⟩
   have B0:Hid (Below wo.heap.size wo W0):=by rw[←hW0];exact bR.alloc lr _
   have K0:Hid (aF W0 wo.heap.size x.cells):=by show aF _ _ _;rw[←hW0];exact aF.new wo x.cells _
   have k0:=K0.out.cell 0 _ rfl
   have k1:=K0.out.cell 1 _ rfl
   have k2:=K0.out.cell 2 _ rfl
   have HNM:=ae fun W=>jh x.nm W (by omega)
   cases hnm:bo (bl x.nm)
   ·rw[hnm] at HNM
    have E:=ae (fS HA.out HB.out HX.out HN.out (Bq hnm) (by decide))
    clear hnm
    go_wp2_with fail
    refine(HNM.out _).mono ?_;rintro e w' ⟨rfl,rfl⟩
    go_wp2_with fail
    go_ret2
    exact dY E.out (ah M0.out.bel B0.out)
   rw[hnm] at HNM
   have HNX:=ae hnm
   clear hnm
   have HCF:=ae (fun (W:World) (hb:Below wo.heap.size wo W)=>rQ 27 (fun g=>!bo (bl g.nm)) x.ga x.gc x.gives W (HGR.out.below (ah M0.out.bel hb)) (by omega) Tryz.call27 (ae fun g hg W2 _=>FO g W2 (by have:=ZGN.out g hg;omega)))
   go_wp2_with fail
   refine(HNM.out _).mono ?_;rintro e w' ⟨rfl,rfl⟩
   go_wp2_with fail
   clear hW0
   refine(HCF.out _ B0.out).mono ?_;rintro e w1 ⟨rfl,hb1⟩
   have B1:=ae (ah B0.out hb1);have K1:=ae (K0.out.below hb1)
   clear hb1 B0 K0 k0 k1 k2 e0 e1 e2 hix
   have k0:=K1.out.cell 0 _ rfl
   have k1:=K1.out.cell 1 _ rfl
   have k2:=K1.out.cell 2 _ rfl
   obtain⟨cb,hcb⟩:∃ cb,(x.gives.any fun g=>!bo (bl g.nm))=cb:=⟨_,rfl⟩
   have HCB:=ae hcb
   rw[hcb]
   clear hcb HCF
   cases cb
   rotate_left
   ·have E:=ae (fS HA.out HB.out HX.out HN.out (by
     obtain⟨g,hg,hn⟩:=List.any_eq_true.1 HCB.out
     exact xH (x:=x.plain) hg (by simpa using hn)) (by decide))
    go_wp2_with fail
    go_ret2
    exact dY E.out (ah M0.out.bel B1.out)
   have HNS:Hid (gg x.plain.nm x.plain.gives=true):=by
    show _=_;unfold gg
    rw[show bo (bl x.plain.nm)=true from HNX.out,Bool.true_and,List.all_eq_true]
    intro g hg
    have:=List.any_eq_false.1 HCB.out g hg
    simpa using this
   obtain⟨⟨t,cd⟩,ht⟩:∃ r,trans a b x.ver=r:=⟨_,rfl⟩
   have HT:=ae ht
   have HTR:=ae (fun W hG=>nJ a b x.ver W hG (by omega))
   rw[ht] at HTR
   unfold jN at HTR
   clear ht
   go_wp2_with fail
   refine(HTR.out _ (HG.out.below (ah M0.out.bel B1.out))).mono ?_;rintro e w2 ⟨rfl,hb2⟩
   have B2:=ae (ah B1.out hb2);have K2:=ae (K1.out.below hb2)
   clear hb2 k0 k1 k2 B1 K1
   by_cases hcd:cd≠0
   ·have E:=ae (fS HA.out HB.out HX.out HN.out (Ga (a:=a) (b:=b) HNS.out (by rw[show trans a b x.plain.ver=(t,cd) from HT.out];exact hcd)) (by decide))
    have q:(cd != 0)=true:=by simpa [bne] using hcd
    clear hcd
    go_wp2_with fail
    go_ret2
    exact dY E.out (ah M0.out.bel B2.out)
   have hcd0:cd=0:=Decidable.not_not.1 hcd
   have q:(cd != 0)=false:=by rw[hcd0];rfl
   have HT0:Hid ((trans a b x.plain.ver).2=0):=by show _=_;rw[show trans a b x.plain.ver=(t,cd) from HT.out];exact hcd0
   clear hcd hcd0
   have k0:=K2.out.cell 0 _ rfl
   have k2:=K2.out.cell 2 _ rfl
   obtain⟨tv,htv⟩:∃ tv:BA,(⟨t.toArray⟩:BA)=tv:=⟨_,rfl⟩
   have HTV:Hid ((⟨(trans a b x.plain.ver).1.toArray⟩:BA)=tv):=by show _=_;rw[show trans a b x.plain.ver=(t,cd) from HT.out];exact htv
   rw[htv]
   clear htv HT
   obtain⟨W3,hW3⟩:∃ W3,w2.alloc (.cells #[.string x.nm,.string tv,.slice none 0 0] 48)=W3:=⟨_,rfl⟩
   have B23:Hid (Below w2.heap.size w2 W3):=by rw[←hW3];exact bR.alloc lr _
   have I0:Hid (Ki wo W3 w2.heap.size (w2.heap.size+1) x.nm tv none 0 0 [] x.cells):=by
    have hsz:W3.heap.size=w2.heap.size+1:=by rw[←hW3];simp
    refine⟨ah B2.out B23.out,K2.out.below B23.out,?_,World.ownsRow_nil _ _ _ _,rfl,K2.out.sz,Nat.lt_succ_self _,by omega⟩
    rw[←hW3];exact aF.new w2 [.string x.nm,.string tv,.slice none 0 0] _
   have hqb:=ae I0.out.lo
   have HW3:=ae hW3
   clear hW3
   go_upto_region 14 with(fail)
   rw[HW3.out]
   clear HW3
   have i2:=I0.out.old.cell 2 _ rfl
   go_wp2_with fail
   clear i2 k0 k2 B2 K2 B23
   generalize w2.heap.size=qb at *
   have hq1:wo.heap.size<qb:=hqb.out
   have hq2:¬ wo.heap.size=qb:=by omega
   have hq3:¬ qb=wo.heap.size:=by omega
   go_loopw [60] (fun i wx=>∃ (j cc:Nat) (G:Option Addr),j≤x.gives.length∧i=.int .i64 j∧Hid (∀ g∈x.gives.take j,iy a b g=0)∧Hid (Ki wo wx qb (qb+1) x.nm tv G j cc ((x.gives.take j).map (iM a b)) x.cells)) (fun i _=>x.gives.length-(intOf i).toNat)
   case atStart=>exact⟨0,0,none,z0,rfl,by simp[Hid],I0⟩
   case round=>
    clear I0
    obtain⟨j,cc,G,hj',rfl,HE,IS⟩:=hrel
    by_cases hlt4:j<x.gives.length
    ·obtain⟨g,hg⟩:∃ g,x.gives[j]?=some g:=⟨_,gG hlt4⟩
     have hgm:=gM hg
     obtain⟨b2,off2,hA2,he2⟩:=(HGR.out.below (ah M0.out.bel IS.out.bel)).elem dw j g hg
     have e0:=he2 0 _ rfl
     have e1:=he2 1 _ rfl
     have e2:=he2 2 _ rfl
     simp only[Nat.add_zero] at e0
     have hix2:=fun W=>aH (T:=31) (E:=53) (sz:=3) (c:=x.gc) Tryz.underlying31 rfl Tryz.sizeOf53 hA2 hlt4 W
     have HGT:=ae (aS hg)
     have HGM:=ae hgm
     have hgn:=ZGN.out g hgm;have hgv:=ZGV.out g hgm
     have HDN:Hid (bo (bl g.nm)=true):=by
      have:=HNS.out;unfold gg at this;rw[Bool.and_eq_true,List.all_eq_true] at this;exact this.2 g hgm
     clear hg hA2 he2 hgm
     obtain⟨W4,hW4⟩:∃ W4,wr.alloc (.cells #[.string g.nm,.int .i64 g.op,.string g.ver] 53)=W4:=⟨_,rfl⟩
     have B4:Hid (Below wr.heap.size wr W4):=by rw[←hW4];exact bR.alloc lr _
     have K4:Hid (aF W4 wr.heap.size g.cells):=by show aF _ _ _;rw[←hW4];exact aF.new wr g.cells _
     have I4:=ae (IS.out.step B4.out)
     have k0:=K4.out.cell 0 _ rfl
     have k1:=K4.out.cell 1 _ rfl
     have k2:=K4.out.cell 2 _ rfl
     by_cases h3:g.op≠3
     ·have q3:(g.op != 3)=true:=by simpa [bne] using h3
      have E:=ae (fS HA.out HB.out HX.out HN.out (oG (a:=a) (b:=b) HNS.out HT0.out (g:=g) HGM.out (by unfold iy;rw[if_pos h3];decide)) (by decide))
      clear h3
      go_wp2_with fail
      go_ret2
      exact dY E.out (ah M0.out.bel I4.out.bel)
     have h30:g.op=3:=Decidable.not_not.1 h3
     have q3:(g.op != 3)=false:=by rw[h30];rfl
     have HAT:=ae (fun W hG=>nK a b g W hG (by omega) (by omega))
     have HAR:Hid (bc a b g=if (trans a b g.ver).2≠0 then (⟨⟨#[]⟩,0,⟨#[]⟩⟩,11) else (⟨g.nm,g.op,⟨(trans a b g.ver).1.toArray⟩⟩,0)):=by
      show _=_;unfold bc;rw[if_neg (by rw[HDN.out];simp),if_neg (by rw[h30];decide)]
     have H30:=ae h30
     unfold aA.val at HAT
     clear h3 h30
     go_wp2_with fail
     clear hW4
     refine(HAT.out _ (HG.out.below (ah M0.out.bel I4.out.bel))).mono ?_;rintro e w5 ⟨rfl,hb5⟩
     have I5:=ae (I4.out.step hb5)
     clear hb5 k0 k1 k2 e0 e1 e2 hix2 I4 B4 K4
     by_cases hge:(trans a b g.ver).2≠0
     ·have E:=ae (fS HA.out HB.out HX.out HN.out (oG (a:=a) (b:=b) HNS.out HT0.out (g:=g) HGM.out (by unfold iy;rw[if_neg (by rw[H30.out];simp),if_pos hge];decide)) (by decide))
      rw[HAR.out,if_pos hge]
      unfold FJ
      clear hge HAR
      go_wp2_with fail
      go_ret2
      exact dY E.out (ah M0.out.bel (ah I5.out.bel (bR.alloc lr _)))
     have HEG:Hid (iy a b g=0):=by show _=_;unfold iy;rw[if_neg (by rw[H30.out];simp),if_neg hge]
     rw[HAR.out,if_neg hge]
     obtain⟨tg,htg⟩:∃ tg:BA,(⟨(trans a b g.ver).1.toArray⟩:BA)=tg:=⟨_,rfl⟩
     have HGN:Hid ((⟨g.nm,g.op,tg⟩:aA)=iM a b g):=by show _=_;unfold iM;rw[H30.out,htg]
     rw[htg]
     unfold FJ
     clear hge HAR htg
     obtain⟨W6,hW6⟩:∃ W6,w5.alloc (.cells #[.string g.nm,.int .i64 g.op,.string tg] 53)=W6:=⟨_,rfl⟩
     have B6:Hid (Below w5.heap.size w5 W6):=by rw[←hW6];exact bR.alloc lr _
     have K6:Hid (aF W6 w5.heap.size [.string g.nm,.int .i64 g.op,.string tg]):=by show aF _ _ _;rw[←hW6];exact aF.new w5 [.string g.nm,.int .i64 g.op,.string tg] _
     have I6:=ae (I5.out.step B6.out)
     have hne1:¬ qb=w5.heap.size:=by have:=I5.out.box.sz;omega
     have hne2:¬ w5.heap.size=qb:=by omega
     have k0:=K6.out.cell 0 _ rfl
     have k1:=K6.out.cell 1 _ rfl
     have k2:=K6.out.cell 2 _ rfl
     have m2:=I6.out.box.cell 2 _ rfl
     have HO6:=ae I6.out.own
     have hbz:=I6.out.sz
     have FB:Hid (some qb≠(Value.slice G j cc).ownBlock):=by intro e;have:=(HO6.out.lt _ e.symm).1;omega
     have HW6:=ae hW6
     clear hW6
     go_upto_region 20 with(fail)
     rw[HW6.out]
     go_wp2_with (
      at_builtin
      refine ak _ rfl _ _ _ rfl (qb+1) 53 i1 _ 3 40 Tryz.underlying31 hj hy0 hy1 hy2 rfl (by omega) (.slice G j cc) j _ rfl (HO6.out.alloc _) (W6.heap.size+1) (some ⟨W6.heap.size,0,none⟩) 1 1 [.string g.nm,.int .i64 g.op,.string tg] rfl (dI W6 _ _ _ _) (by simp[Value.oneCell']) (by simp only[maxLen];omega) (by omega) (by simp;omega) ?_
      intro v1 w6 hown1 hg1 hat1
      obtain⟨G1,c1,rfl⟩:=aG hown1
      have KB:=ae ((I6.out.box.alloc (.cells #[.string g.nm,.int .i64 g.op,.string tg] 53)).grownR hg1 FB.out)
      have m2':=KB.out.cell 2 _ rfl
      have m2f:=KB.out.free 2 (by simp))
     have N1:=ae (I6.out.app _ (x:=⟨g.nm,g.op,tg⟩) hown1 hg1)
     clear hown1 hg1 hat1
     go_wp2_with fail
     go_roundw
     case rel=>exact⟨j+1,c1,G1,by omega,by go_num,ae (fun y hy=>by
      rw[HGT.out] at hy
      rcases List.mem_append.1 hy with hy | hy
      ·exact HE.out y hy
      ·rw[List.mem_singleton.1 hy];exact HEG.out),by rw[HGT.out,List.map_append,List.map_singleton,←HGN.out];exact N1⟩
     case measure=>simp[intOf];omega
    ·obtain rfl:j=x.gives.length:=by omega
     have HI0:Hid (eA a b x.plain=0):=Kj HNS.out HT0.out (fun g hg=>HE.out g (by rw[List.take_length];exact hg))
     have HIN:Hid ((⟨x.nm,tv,G,cc,(x.gives.take x.gives.length).map (iM a b)⟩:aB).plain=dG a b x.plain):=by
      show _=_;rw[List.take_length];unfold dG aB.plain;simp only;rw[show(⟨(trans a b x.ver).1.toArray⟩:BA)=tv from HTV.out]
     generalize (x.gives.take x.gives.length).map (iM a b)=LL at *
     have M1:=ae (M0.out.below IS.out.bel)
     have HO2:=ae M1.out.row
     have m0:=IS.out.box.cell 0 _ rfl
     have m1:=IS.out.box.cell 1 _ rfl
     have m2:=IS.out.box.cell 2 _ rfl
     have hwz:=M1.out.bel.size
     have hwo:=M0.out.bel.size
     have HTK:=ae (aS HX.out)
     go_wp2_with (
      at_builtin
      refine ak _ rfl _ _ _ rfl w.heap.size 48 i0 _ 3 56 Tryz.underlying36 hi hz0 hz1 hz2 rfl (by omega) (.slice O n oc) n _ rfl (HO2.out.alloc _) (wr.heap.size+1) (some ⟨wr.heap.size,0,none⟩) 1 1 [.string x.nm,.string tv,.slice G x.gives.length cc] rfl (dI wr _ _ _ _) (by simp[Value.oneCell']) (by simp only[maxLen];omega) (by omega) (by simp;omega) ?_
      intro v1 w6 hown1 hg1 hat1
      obtain⟨O1,c1,rfl⟩:=aG hown1)
     have N1:Hid (Hs w w6 (out++[⟨x.nm,tv,G,cc,LL⟩]) O1 (n+1) c1):=M1.out.grow (IS.out.inst (by omega)) (by rw[IS.out.cells];exact hown1) hg1
     clear hown1 hg1 hat1
     go_wp2_with fail
     go_roundw
     case rel=>exact⟨k+1,O1,n+1,c1,_,rfl,by go_num,by omega,by omega,by omega,ae (fun y hy=>by
      rw[HTK.out] at hy
      rcases List.mem_append.1 hy with hy | hy
      ·exact HN.out y hy
      ·rw[List.mem_singleton.1 hy];exact HI0.out),by show _=_;rw[HTK.out,List.map_append,List.map_append,HO.out,List.map_singleton,List.map_singleton,HIN.out],N1⟩
     case measure=>simp[intOf];omega
  ·have hall:∀ y∈l,eA a b y.plain=0:=fun y hy=>HN.out y (by rw[tL (by omega)];exact hy)
   have E:=ae (xG HA.out HB.out hall)
   have HO':Hid (out.map aB.plain=(l.map aB.plain).map (dG a b)):=by show _=_;rw[HO.out,tL (by omega),List.map_map];rfl
   clear hall
   go_wp2_with fail
   go_ret2
   exact⟨O,oc,out,by rw[E.out.1,M0.out.len];rfl,M0.out.ok,by rw[E.out.2,HO'.out],M0.out.bel⟩
end
end Go.Proofs.YtkjdbpjglobbjaaGreatDoor
