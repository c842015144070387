/- A part of the proof. -/
import Derived.Test.YtkmjcombhjombaaGreatDoorK23
set_option maxRecDepth 100000
set_option maxHeartbeats 20000000
set_option linter.unusedVariables false
set_option linter.unusedSimpArgs false
namespace Go.Proofs.YtkmjcombhjombaaGreatDoor
variable{s:BA}{fmt:Int}{bs ns:List BA}{dv:List Value}{B1 b c1 c2 j k kc n1 n2:Nat}{o:Obj}{A1 A2 K:Option Addr}{W0 w w' w2 wr:World}
section
open Go.RowKit
def Y4:BA:=⟨#[111,114]⟩
def mV (g:jf):iZ:=.mk ⟨#[]⟩ g.nm g.op.toNat g.ver none 0 []
theorem MO (g:jf):(mV g).pl=lh g:=by unfold mV lh;simp[iZ.pl,bl]
theorem Fh {g:jf}(h:0<=g.op):(mV g).cells=[.string ⟨#[]⟩,.string g.nm,.int .i64 g.op,.string g.ver,.slice none 0 0]:=by
 unfold mV iZ.cells;simp only[iZ.op,iZ.nm,iZ.aop,iZ.ver,iZ.ka,iZ.kids,iZ.kc,List.length_nil];rw[Int.toNat_of_nonneg h]
theorem IE {g:jf}(h:g.told 2):lT (mV g):=by
 have F:=h.op5;have D:=h.op0;refine .atom _ _ _ (Cj h.name) (by omega) (fun e=>?_) (fun e=>?_)
 ·have:=h.none (by omega);rw[<-iX,this];rfl
 ·obtain⟨c,z,y⟩:=h.ver (by omega);have:=sd (.inr (.inl rfl)) z;rw[<-y,oQ] at this;exact this
theorem IF (w:World)(lo:Nat)(bad:Option Nat)(g:jf):kD w lo bad (mV g):=.mk _ (World.ownsRow_nil _ _ _ _) (by simp[mV,iZ.ka,iZ.kids,iZ.kc,Value.ownBlock]) (by simp[mV,iZ.kids])
theorem Uw {l:List jf}(h:∀ g∈l,g.told 2)(h2:2<=l.length)(K:Option Addr)(kc:Nat):lT (.mk Y4 ⟨#[]⟩ 0 ⟨#[]⟩ K kc (l.map mV)):=by
 refine .node _ _ _ _ (by decide) ?_ (fun k y=>?_)
 ·show kj mW (l.map mV).length=true;unfold kj;rw[List.length_map];simp[mW,nx,vM,kq,nE,kA];try omega
 ·obtain⟨g,z,rfl⟩:=List.mem_map.1 y;exact IE (h g z)
theorem Fi:∀ (l:List jf),lK (l.map mV)=l.length/\Hz (l.map mV)<=1
 | []=>⟨rfl,by simp[Hz]⟩
 | g::r=>by
  obtain⟨y,F⟩:=Fi r;have D:(mV g).cnt=1:=DD rfl;have z:(mV g).ht=0:=Cc.2 rfl;simp only[List.map_cons,lK,Hz,y,D,z,List.length_cons];omega
structure Ux (w wr:World) (ns:List BA) (A1:Option Addr) (n1 c1:Nat) (bs:List BA) (A2:Option Addr) (n2 c2:Nat):Prop where
 r1:wr.ownsRow w.heap.size 9 1 (.slice A1 n1 c1) n1 (strCells ns)
 r2:wr.ownsRow w.heap.size 9 1 (.slice A2 n2 c2) n2 (strCells bs)
 ne:∀ g,(Value.slice A1 n1 c1).ownBlock=some g->(Value.slice A2 n2 c2).ownBlock≠some g
 l1:ns.length=n1
 l2:bs.length=n2
 bel:Below w.heap.size w wr
theorem Ux.start (w:World):Ux w w [] none 0 0 [] none 0 0:=⟨World.ownsRow_nil _ _ _ _,World.ownsRow_nil _ _ _ _,by simp[Value.ownBlock],rfl,rfl,bR⟩
theorem Ux.below (h:Ux w wr ns A1 n1 c1 bs A2 n2 c2)(hb:Below wr.heap.size wr w'):Ux w w' ns A1 n1 c1 bs A2 n2 c2:=
 ⟨jp h.r1 hb,jp h.r2 hb,h.ne,h.l1,h.l2,jc h.bel hb⟩
theorem yM (a b:List BA):strCells (a++b)=strCells a++strCells b:=by simp[strCells]
theorem Ux.add1 {B1:Option Addr}{d1:Nat}(h:Ux w wr ns A1 n1 c1 bs A2 n2 c2)
  (hr:w2.ownsRow w.heap.size 9 1 (.slice B1 (n1+1) d1) (n1+1) (strCells ns++[.string s]))(hg:(wr.alloc o).grownBy w2 (Value.slice A1 n1 c1).ownBlock)
  (ha:(Value.slice B1 (n1+1) d1).ownBlock=(Value.slice A1 n1 c1).ownBlock\/(Value.slice B1 (n1+1) d1).ownBlock=some (wr.alloc o).heap.size):Ux w w2 (ns++[s]) B1 (n1+1) d1 bs A2 n2 c2:=by
 have z:=h.below ((Below.refl wr.heap.size wr).alloc lr o);refine⟨by rw[yM];exact hr,z.r2.kept hg ?_,fun g y=>?_,by simp[h.l1],h.l2,z.bel.grown hg z.bel.size (fun j D=>(z.r1.lt j D).1)⟩
 ·cases hq:(Value.slice A2 n2 c2).ownBlock with
  | none=>exact .inl rfl
  | some g=>right;intro e;exact h.ne g e.symm hq
 ·rcases ha with ha | ha
  ·rw[ha] at y;exact h.ne g y
  ·rw[ha] at y;injection y with y;intro e;have:=(z.r2.lt g e).2;omega
theorem Ux.add2 {B2:Option Addr}{d2:Nat}(h:Ux w wr ns A1 n1 c1 bs A2 n2 c2)
  (hr:w2.ownsRow w.heap.size 9 1 (.slice B2 (n2+1) d2) (n2+1) (strCells bs++[.string s]))(hg:(wr.alloc o).grownBy w2 (Value.slice A2 n2 c2).ownBlock)
  (ha:(Value.slice B2 (n2+1) d2).ownBlock=(Value.slice A2 n2 c2).ownBlock\/(Value.slice B2 (n2+1) d2).ownBlock=some (wr.alloc o).heap.size):Ux w w2 ns A1 n1 c1 (bs++[s]) B2 (n2+1) d2:=by
 have z:=h.below ((Below.refl wr.heap.size wr).alloc lr o);refine⟨z.r1.kept hg ?_,by rw[yM];exact hr,fun g y=>?_,h.l1,by simp[h.l2],z.bel.grown hg z.bel.size (fun j D=>(z.r2.lt j D).1)⟩
 ·cases hq:(Value.slice A1 n1 c1).ownBlock with
  | none=>exact .inl rfl
  | some g=>right;intro e;exact h.ne g hq e.symm
 ·rcases ha with ha | ha
  ·rw[ha];exact h.ne g y
  ·rw[ha];intro e;injection e with e;have:=(z.r1.lt g y).2;omega
def J2 (N B:List (LU))(w:World)(e:Ending)(w':World):Prop:=
 ∃ (A1:Option Addr) (c1:Nat) (A2:Option Addr) (c2:Nat) (ns bs:List BA),e=.returned (.tuple #[.slice A1 ns.length c1,.slice A2 bs.length c2,.int .i64 0])/\Below w.heap.size w w'/\rg w.heap.size w' A1 c1 ns/\rg w.heap.size w' A2 c2 bs/\ns.map bl=N/\bs.map bl=B
theorem IG (bar:Bool)(l:List jA):kE 2 bar l=(jY bar l).map fun d=>jX (vQ d):=by unfold kE;rw[if_neg (by decide),if_pos rfl]
theorem Fj {bar:Bool}{l:List jd}{d:jd}(h:l[k]?=some d):kE 2 bar ((l.take (k+1)).map jd.pl)=kE 2 bar ((l.take k).map jd.pl)++(if d.bar=bar then [jX (vQ d.pl)] else []):=by
 rw[IG,IG,jI h,List.map_append];unfold jY;rw[List.filter_append,List.map_append];congr 1;by_cases y:d.bar=bar
 ·rw[if_pos y];simp[jd.pl,y]
 ·rw[if_neg y];simp[jd.pl,y]
theorem Qa (w:World)(t:TypeId)(a b c d e:Value):oP (w.alloc (.cells #[a,b,c,d,e] t)) (w.heap.size+1) 5 (some ⟨w.heap.size,0,none⟩) 1 [a,b,c,d,e]:=by
 refine⟨rfl,fun _=>⟨_,rfl,by simp,fun j u y=>?_⟩⟩
 match j,y with
 | 0,y=>simp at y;subst y;simp[Addr.add]
 | 1,y=>simp at y;subst y;simp[Addr.add]
 | 2,y=>simp at y;subst y;simp[Addr.add]
 | 3,y=>simp at y;subst y;simp[Addr.add]
 | 4,y=>simp at y;subst y;simp[Addr.add]
 | j+5,y=>simp at y
structure Uy (W0 wr:World) (b B1:Nat) (K:Option Addr) (j kc:Nat) (L:List jf) (dv:List Value):Prop where
 bel:Below W0.heap.size W0 wr
 dbx:jh wr W0.heap.size dv
 box:jh wr b [.string Y4,.string ⟨#[]⟩,.int .i64 0,.string ⟨#[]⟩,.slice K j kc]
 own:wr.ownsRow B1 86 5 (.slice K j kc) j ((L.map mV).flatMap iZ.cells)
 len:L.length=j
 lo:W0.heap.size<b
 hi:b<B1
 sz:B1<=wr.heap.size
theorem Uy.step {L:List jf}(h:Uy W0 wr b B1 K j kc L dv)(hb:Below wr.heap.size wr w'):Uy W0 w' b B1 K j kc L dv:=
 ⟨jc h.bel hb,h.dbx.below hb,h.box.below hb,jp h.own hb,h.len,h.lo,h.hi,Nat.le_trans h.sz hb.size⟩
theorem Uy.app {w6:World}{K1:Option Addr}{L:List jf}{x:jf}(h:Uy W0 wr b B1 K j kc L dv)(o:Obj)
  (hown:w6.ownsRow B1 86 5 (.slice K1 (j+1) c1) (j+1) ((L.map mV).flatMap iZ.cells++(mV x).cells))(hg:(wr.alloc o).grownBy w6 (Value.slice K j kc).ownBlock):
  Uy W0 (w6.setCell ⟨b,4,none⟩ (.slice K1 (j+1) c1)) b B1 K1 (j+1) c1 (L++[x]) dv:=by
 have lo:=h.lo;have H:=h.hi;have sz:=h.sz;have D:∀ g,(Value.slice K j kc).ownBlock=some g->B1<=g:=fun g F=>(h.own.lt g F).1;have M:some b≠(Value.slice K j kc).ownBlock:=fun e=>by have:=D b e.symm;omega
 have I:some W0.heap.size≠(Value.slice K j kc).ownBlock:=fun e=>by have:=D _ e.symm;omega
 have y:w6.grownBy (w6.setCell ⟨b,4,none⟩ (.slice K1 (j+1) c1)) (some b):=ji (World.grownBy.refl w6 (some b)) (.inl rfl) _;refine⟨jb ((h.bel.alloc h.bel.size o).grown hg (by have:=h.bel.size;simp;omega) (fun i z=>by have:=D i z;omega)) (by omega) _,((h.dbx.alloc o).grownR hg I).far (by omega) _,((h.box.alloc o).grownR hg M).set 4 (by simp) _,?_,by simp[h.len],lo,H,?_⟩
 ·rw[List.map_append,List.flatMap_append];have:=Ix (j:=4) hown H (.slice K1 (j+1) c1);simpa using this
 ·have J:=hg.size;have N:=y.size;simp at J;omega
theorem Uy.tree {L:List jf}(h:Uy W0 wr b B1 K j kc L dv):kD wr 0 none (.mk Y4 ⟨#[]⟩ 0 ⟨#[]⟩ K kc (L.map mV)):=by
 refine .mk _ ?_ (by simp) (fun k y=>?_)
 ·simp only[iZ.ka,iZ.kids,iZ.kc,List.length_map];rw[h.len];exact jK h.own z0
 ·simp only[iZ.kids] at y;obtain⟨g,_,rfl⟩:=List.mem_map.1 y;exact IF _ _ _ _
theorem Uy.cells {L:List jf}(h:Uy W0 wr b B1 K j kc L dv):jh wr b (iZ.mk Y4 ⟨#[]⟩ 0 ⟨#[]⟩ K kc (L.map mV)).cells:=by
 have:=h.box;unfold iZ.cells;simp only[iZ.op,iZ.nm,iZ.aop,iZ.ver,iZ.ka,iZ.kids,iZ.kc,List.length_map];rw[h.len];exact this
theorem Xf {d:jd}{g:jf}(h:d.alts=[g]):vQ d.pl=lh g:=by unfold vQ jd.pl;simp only;rw[h]
theorem Uz {d:jd}(h:2<=d.alts.length):vQ d.pl=.node mW (d.alts.map lh):=by
 unfold vQ jd.pl;simp only
 match he:d.alts with
 | []=>rw[he] at h;simp at h
 | [g]=>rw[he] at h;simp at h
 | g::g2::r=>rfl
theorem Y5 (L:List jf)(K:Option Addr)(kc:Nat):(iZ.mk Y4 ⟨#[]⟩ 0 ⟨#[]⟩ K kc (L.map mV)).pl=.node mW (L.map lh):=by
 rw[Ce _ _ _ _ _ _ _ (by decide),qf,List.map_map];congr 1
 try exact List.map_congr_left fun g _=>MO g
theorem Qb (A:Option Addr)(c:Nat)(ds:List jd)(w:World)(hG:Gl w)(hd:qm w A ds)(hl:ds.length<=64)(ha:∀ d∈ds,d.alts.length<=64)(ht:∀ d∈ds,d.pl.told 2):Calls Tryz.prog 84 #[.slice A ds.length c] w (J2 (kE 2 false (ds.map jd.pl)) (kE 2 true (ds.map jd.pl)) w):=by
 obtain⟨i0,hi,aG,aA,aC⟩:=info_parts sY;obtain⟨i1,hj,bf,aV,aU⟩:=info_parts vr;have HG:=iV hG;have HD:=iV hd;have HT:=iV ht;have HA:=iV ha;clear hG hd ht ha;go_in;go_wp2;go_loopw [2,3,14] (fun s2 s3 bg wr=>∃ (k n1 c1 n2 c2:Nat) (A1 A2:Option Addr) (ns bs:List BA),k<=ds.length/\n1<=k/\n2<=k/\s2=.slice A1 n1 c1/\s3=.slice A2 n2 c2/\bg=.int .i64 k/\Hid (ns.map bl=kE 2 false ((ds.take k).map jd.pl))/\Hid (bs.map bl=kE 2 true ((ds.take k).map jd.pl))/\Hid (Ux w wr ns A1 n1 c1 bs A2 n2 c2)) (fun _ _ i _=>ds.length-(intOf i).toNat)
 case atStart=>exact⟨0,0,0,0,0,none,none,[],[],z0,z0,z0,rfl,rfl,rfl,rfl,rfl,Ux.start w⟩
 case round=>
  obtain⟨k,n1,c1,n2,c2,A1,A2,ns,bs,hk,bz,br,rfl,rfl,rfl,HN,HB,X⟩:=hrel;by_cases aF:k<ds.length
  ·obtain⟨d,U⟩:∃ d,ds[k]?=some d:=⟨_,gG aF⟩
   have hm:=gM U;obtain⟨b,off,hA,he⟩:=(HD.out.row.below X.out.bel).elem pq k d U;have e0:=he 0 _ rfl;have e1:=he 1 _ rfl;simp only[Nat.add_zero] at e0;have bh:=fun W=>jm (T:=30) (E:=75) (sz:=2) (c:=c) Tryz.underlying30 rfl Tryz.sizeOf75 hA aF W;have af:=HT.out d hm;have aI:=iV af;have aH:=HA.out d hm;have an:=iV (Fj (bar:=false) U);have ar:=iV (Fj (bar:=true) U);have aQ:=iV ((HD.out.all d hm).below X.out.bel);obtain⟨g,r,ad⟩:∃ g r,d.alts=g::r:=by
    match hx:d.alts with
    | []=>exact absurd hx af.ne
    | g::r=>exact⟨g,r,rfl⟩
   have aq:g.told 2:=af.each g (by show g∈d.alts;rw[ad];simp);have ak:=iV ad;obtain⟨F,N⟩:∃ F,d.alts.length=F:=⟨_,rfl⟩
   obtain⟨db,az⟩:∃ db,d.bar=db:=⟨_,rfl⟩
   rw[N] at e1 aH;rw[az] at e0 an ar;have bq:1<=F:=by rw[<-N,ad];simp
   have M:=iV N;clear U hA he hm af ad N az;obtain⟨J,rfl⟩:∃ J:World,J=wr:=⟨_,rfl⟩
   obtain⟨z,ab⟩:∃ z,J.alloc (.cells #[.bool db,.slice d.aa F d.ac] 75)=z:=⟨_,rfl⟩
   have B2:Hid (Below J.heap.size J z):=by rw[<-ab];exact bR.alloc lr _
   have K2:Hid (jh z J.heap.size [.bool db,.slice d.aa F d.ac]):=by show jh _ _ _;rw[<-ab];exact jh.new J [.bool db,.slice d.aa F d.ac] _
   have k0:=K2.out.cell 0 _ rfl;have k1:=K2.out.cell 1 _ rfl;have aP:=iV (aQ.out.below B2.out);obtain⟨b2,aL,aJ,Y⟩:=aP.out.elem md 0 g (by rw[ak.out];rfl);have g0:=Y 0 _ rfl;have g1:=Y 1 _ rfl;have g2:=Y 2 _ rfl;simp only[Nat.add_zero,Nat.zero_mul] at g0 g1 g2;have aO:∀ W,(Instr.indexAt 34 (.slice d.aa F d.ac) (.int .i64 0)).run Tryz.prog W=.ok (.pointer (some ⟨b2,aL,none⟩)) W:=fun W=>by
    have:=jm (T:=34) (E:=78) (sz:=3) (n:=F) (k:=0) (c:=d.ac) Tryz.underlying34 rfl Tryz.sizeOf78 aJ (by omega) W;simpa using this
   have aZ:=aq.op0;obtain⟨W3,V⟩:∃ W3,z.alloc (.cells #[.string ⟨#[]⟩,.string g.nm,.int .i64 g.op,.string g.ver,.slice none 0 0] 86)=W3:=⟨_,rfl⟩
   have B3:Hid (Below z.heap.size z W3):=by rw[<-V];exact bR.alloc lr _
   have R:Hid (jh W3 z.heap.size [.string ⟨#[]⟩,.string g.nm,.int .i64 g.op,.string g.ver,.slice none 0 0]):=by show jh _ _ _;rw[<-V];exact jh.new z [.string ⟨#[]⟩,.string g.nm,.int .i64 g.op,.string g.ver,.slice none 0 0] _
   have ai:=iV (K2.out.below B3.out);have bb:=iV aq;have aY:J.heap.size<z.heap.size:=K2.out.sz;have aD:=ai.out.cell 1 _ rfl;have bB:W3.heap.size=z.heap.size+1:=by rw[<-V];simp
   have ay:=iV ab;have aK:=iV V;clear aJ Y aq ab V;go_upto_region 4 with(fail)
   rw[ay.out];go_upto_if 26 with(fail)
   rw[aK.out];clear ay aK e0 e1 bh k0 k1 g0 g1 g2 aO;go_cut [7] (fun s wx=>s=.pointer (some ⟨z.heap.size,0,none⟩)/\∃ T:iZ,Hid (jh wx z.heap.size T.cells)/\Hid (kD wx 0 none T)/\Hid (T.pl=vQ d.pl)/\Hid (lT T)/\T.cnt<=64/\T.ht<=32/\Hid (Below J.heap.size J wx)/\Hid (jh wx J.heap.size [.bool db,.slice d.aa F d.ac]))
   case first=>
    by_cases h1:1<F
    rotate_left
    ·have q1:decide ((1:Int)<(F:Int))=false:=dF (by omega);have q2:decide (1<F)=false:=dF h1;have aN:d.alts=[g]:=by
      have h2:=M.out;rw[ak.out,List.length_cons] at h2;have:g :: []=[g]:=rfl;rw[ak.out];congr 1;exact List.eq_nil_of_length_eq_zero (by omega)
     have aj:Hid ((mV g).pl=vQ d.pl):=by show _=_;rw[Xf aN,MO]
     have bj:Hid (jh W3 z.heap.size (mV g).cells):=by show jh _ _ _;rw[Fh aZ];exact R.out
     have bd:(mV g).cnt<=64:=by rw[DD rfl];omega
     have bc:(mV g).ht<=32:=by rw[Cc.2 rfl];omega
     clear aN;go_wp2;go_meet;exact⟨rfl,mV g,bj,IF _ _ _ _,aj,IE bb.out,bd,bc,jc B2.out B3.out,ai⟩
    ·have q1:decide ((1:Int)<(F:Int))=true:=dT (by omega);have q2:decide (1<F)=true:=dT h1;have x0:=R.out.cell 0 _ rfl;have x1:=R.out.cell 1 _ rfl;have x2:=R.out.cell 2 _ rfl;have x3:=R.out.cell 3 _ rfl;have x4:=R.out.cell 4 _ rfl;have y0:=R.out.free 0 (by simp);have y1:=R.out.free 1 (by simp);have y2:=R.out.free 2 (by simp);have y3:=R.out.free 3 (by simp);have y4:=R.out.free 4 (by simp);have bo:¬ J.heap.size=z.heap.size:=by omega
     have I:¬ z.heap.size=J.heap.size:=by omega
     obtain⟨W4,au⟩:∃ W4,((((W3.setCell ⟨z.heap.size,0,none⟩ (.string ⟨#[111,114]⟩)).setCell ⟨z.heap.size,1,none⟩ (.string ⟨#[]⟩)).setCell ⟨z.heap.size,2,none⟩ (.int .i64 0)).setCell ⟨z.heap.size,3,none⟩ (.string ⟨#[]⟩)).setCell ⟨z.heap.size,4,none⟩ (.slice none 0 0)=W4:=⟨_,rfl⟩
     have K0:Hid (Uy J W4 z.heap.size (z.heap.size+1) none 0 0 [] [.bool db,.slice d.aa F d.ac]):=by
      show Uy _ _ _ _ _ _ _ _ _;rw[<-au];refine⟨?_,?_,?_,World.ownsRow_nil _ _ _ _,rfl,aY,Nat.lt_succ_self _,?_⟩
      ·repeat' refine jb ?_ (by omega) _
       exact jc B2.out B3.out
      ·exact((((ai.out.far I _).far I _).far I _).far I _).far I _
      ·exact((((R.out.set 0 (by simp) _).set 1 (by simp) _).set 2 (by simp) _).set 3 (by simp) _).set 4 (by simp) _
      ·have:(((((W3.setCell ⟨z.heap.size,0,none⟩ (.string ⟨#[111,114]⟩)).setCell ⟨z.heap.size,1,none⟩ (.string ⟨#[]⟩)).setCell ⟨z.heap.size,2,none⟩ (.int .i64 0)).setCell ⟨z.heap.size,3,none⟩ (.string ⟨#[]⟩)).setCell ⟨z.heap.size,4,none⟩ (.slice none 0 0)).heap.size=W3.heap.size:=by simp
       omega
     have ax:=iV au;have aX:=K0.out.dbx.cell 1 _ rfl;clear au;go_upto_region 7 with(fail)
     rw[ax.out];clear ax x0 x1 x2 x3 x4 y0 y1 y2 y3 y4 aD;go_wp2_with fail;have H1:=iV h1;rw[q1];clear aX q1 q2 h1;go_loopw [31] (fun i wx=>∃ (j kc:Nat) (K:Option Addr),j<=F/\i=.int .i64 j/\Hid (Uy J wx z.heap.size (z.heap.size+1) K j kc (d.alts.take j) [.bool db,.slice d.aa F d.ac])) (fun i _=>F-(intOf i).toNat)
     case atStart=>exact⟨0,0,none,z0,rfl,by simpa [Hid] using K0⟩
     case round=>
      clear K0;obtain⟨j,kc,K,bt,rfl,KI⟩:=hrel;by_cases ag:j<F
      ·obtain⟨a,ha⟩:∃ a,d.alts[j]?=some a:=⟨_,gG (by rw[M.out];exact ag)⟩
       obtain⟨b3,bm,aR,Z⟩:=(aQ.out.below KI.out.bel).elem md j a ha;have e0:=Z 0 _ rfl;have e1:=Z 1 _ rfl;have e2:=Z 2 _ rfl;simp only[Nat.add_zero] at e0;have bn:=fun W=>jm (T:=34) (E:=78) (sz:=3) (n:=F) (c:=d.ac) Tryz.underlying34 rfl Tryz.sizeOf78 aR ag W;have aB:0<=a.op:=(aI.out.each a (gM ha)).op0;have aT:=iV (jI ha);have aS:=iV (Fh aB);clear ha aR Z aB;obtain⟨W5,ae⟩:∃ W5,wr.alloc (.cells #[.string a.nm,.int .i64 a.op,.string a.ver] 78)=W5:=⟨_,rfl⟩
       have B5:Hid (Below wr.heap.size wr W5):=by rw[<-ae];exact bR.alloc lr _
       have K5:Hid (jh W5 wr.heap.size [.string a.nm,.int .i64 a.op,.string a.ver]):=by show jh _ _ _;rw[<-ae];exact jh.new wr [.string a.nm,.int .i64 a.op,.string a.ver] _
       have I5:=iV (KI.out.step B5.out);have q0:=K5.out.cell 0 _ rfl;have bu:=K5.out.cell 1 _ rfl;have bw:=K5.out.cell 2 _ rfl;have m4:=I5.out.box.cell 4 _ rfl;have aE:=iV I5.out.own;have bx:=I5.out.sz;have FB:Hid (some z.heap.size≠(Value.slice K j kc).ownBlock):=by intro e;have:=(aE.out.lt _ e.symm).1;omega
       have bk:¬ z.heap.size=wr.heap.size:=by have:=KI.out.sz;omega
       have bp:¬ wr.heap.size=z.heap.size:=by omega
       have be:=iV ae;clear ae;go_upto_region 10 with(fail)
       rw[be.out]
       go_wp2_with (
        at_builtin
        refine je _ rfl _ _ _ rfl (z.heap.size+1) 86 i1 _ 5 80 Tryz.underlying84 hj bf aV aU rfl (by omega) (.slice K j kc) j _ rfl (aE.out.alloc _) (W5.heap.size+1) (some ⟨W5.heap.size,0,none⟩) 1 1 [.string ⟨#[]⟩,.string a.nm,.int .i64 a.op,.string a.ver,.slice none 0 0] rfl (Qa W5 _ _ _ _ _ _) (by simp[Value.oneCell']) (by simp only[maxLen];omega) (by omega) (by simp;omega) ?_;intro v1 w6 y H D;obtain⟨K1,d1,rfl⟩:=jk y;have KB:=iV ((I5.out.box.alloc (.cells #[.string ⟨#[]⟩,.string a.nm,.int .i64 a.op,.string a.ver,.slice none 0 0] 86)).grownR H FB.out);have bv:=KB.out.cell 4 _ rfl;have bC:=KB.out.free 4 (by simp))
       have N1:=iV (I5.out.app _ (x:=a) (by rw[aS.out];exact y) H);clear y H D;go_wp2;go_roundw
       case rel=>exact⟨j+1,d1,K1,by omega,by go_num,by rw[aT.out];exact N1⟩
       case measure=>simp[intOf];omega
      ·obtain rfl:j=F:=by omega
       have aW:Hid (d.alts.take j=d.alts):=by show _=_;rw[tL (by have:=M.out;omega)]
       rw[aW.out] at KI;have aj:Hid ((iZ.mk Y4 ⟨#[]⟩ 0 ⟨#[]⟩ K kc (d.alts.map mV)).pl=vQ d.pl):=by show _=_;rw[Uz (by have:=M.out;have:=H1.out;omega),Y5]
       have ba:Hid (lT (iZ.mk Y4 ⟨#[]⟩ 0 ⟨#[]⟩ K kc (d.alts.map mV))):=Uw (l:=d.alts) (fun g hg=>aI.out.each g hg) (by have:=M.out;have:=H1.out;omega) K kc;have ao:(iZ.mk Y4 ⟨#[]⟩ 0 ⟨#[]⟩ K kc (d.alts.map mV)).cnt<=64:=by
        rw[nY (by simp only[iZ.kids];intro e;have:=congrArg List.length e;rw[List.length_map,M.out,List.length_nil] at this;omega)];simp only[iZ.kids];rw[(Fi d.alts).1,M.out];exact aH
       have ah:(iZ.mk Y4 ⟨#[]⟩ 0 ⟨#[]⟩ K kc (d.alts.map mV)).ht<=32:=by
        rw[DC];simp only[iZ.kids];have:=(Fi d.alts).2;omega
       go_wp2;go_meet;exact⟨rfl,_,KI.out.cells,KI.out.tree,aj,ba,ao,ah,KI.out.bel,KI.out.dbx⟩
   case rest=>
   obtain⟨rfl,T,KT,TO,TP,TG,ao,ah,BW,KD⟩:=hcut;have x0:=KT.out.cell 0 _ rfl;have x1:=KT.out.cell 1 _ rfl;have x2:=KT.out.cell 2 _ rfl;have x3:=KT.out.cell 3 _ rfl;have x4:=KT.out.cell 4 _ rfl;have S1:=iV (X.out.below BW.out);have av:=iV (Ec TG.out ao ah wc (HG.out.below S1.out.bel) TO.out);unfold iZ.val at av;clear aD;go_wp2_with fail;refine av.out.mono ?_;rintro e w5 ⟨rfl,am⟩;have S2:=iV (S1.out.below am);have bi:=iV (KD.out.below am);clear am x0 x1 x2 x3 x4 av;obtain⟨O,ap⟩:∃ O,ke (jX T.pl)=O:=⟨_,rfl⟩
   have aM:Hid (bl O=jX (vQ d.pl)):=by show _=_;rw[<-ap,lS,TP.out]
   rw[ap];clear ap;have x0:=bi.out.cell 0 _ rfl;have bA:=S2.out.bel.size;cases db
   ·have HO:=iV S2.out.r1
    go_wp2_with (
     at_builtin
     refine je _ rfl _ _ _ rfl w.heap.size 9 i0 _ 1 16 Tryz.underlying33 hi aG aA aC rfl (by omega) (.slice A1 n1 c1) n1 _ rfl (HO.out.alloc _) (w5.heap.size+1) (some ⟨w5.heap.size,0,none⟩) 1 1 [.string O] rfl (GZ w5 O) (by simp[Value.oneCell']) (by simp only[maxLen];omega) (by omega) (by simp;omega) ?_;intro v1 w6 y H D;obtain⟨O1,d1,rfl⟩:=jk y)
    have N1:=iV (S2.out.add1 (s:=O) (o:=.cells #[.string O] 9) y H D);clear y H D;go_wp2;go_roundw
    case rel=>exact⟨k+1,n1+1,d1,n2,c2,O1,A2,ns++[O],bs,by omega,by omega,by omega,rfl,rfl,by go_num,by show _=_;rw[an.out,List.map_append,HN.out,if_pos trivial,List.map_singleton,aM.out],by show _=_;rw[ar.out,HB.out,if_neg (by simp),List.append_nil],N1⟩
    case measure=>simp[intOf];omega
   ·have HO:=iV S2.out.r2
    go_wp2_with (
     at_builtin
     refine je _ rfl _ _ _ rfl w.heap.size 9 i0 _ 1 16 Tryz.underlying33 hi aG aA aC rfl (by omega) (.slice A2 n2 c2) n2 _ rfl (HO.out.alloc _) (w5.heap.size+1) (some ⟨w5.heap.size,0,none⟩) 1 1 [.string O] rfl (GZ w5 O) (by simp[Value.oneCell']) (by simp only[maxLen];omega) (by omega) (by simp;omega) ?_;intro v1 w6 y H D;obtain⟨O1,d1,rfl⟩:=jk y)
    have N1:=iV (S2.out.add2 (s:=O) (o:=.cells #[.string O] 9) y H D);clear y H D;go_wp2;go_roundw
    case rel=>exact⟨k+1,n1,c1,n2+1,d1,A1,O1,ns,bs++[O],by omega,by omega,by omega,rfl,rfl,by go_num,by show _=_;rw[an.out,HN.out,if_neg (by simp),List.append_nil],by show _=_;rw[ar.out,List.map_append,HB.out,if_pos trivial,List.map_singleton,aM.out],N1⟩
    case measure=>simp[intOf];omega
  ·have EN:Hid (ns.map bl=kE 2 false (ds.map jd.pl)):=by show _=_;rw[HN.out,tL (by omega)]
   have EB:Hid (bs.map bl=kE 2 true (ds.map jd.pl)):=by show _=_;rw[HB.out,tL (by omega)]
   go_wp2;go_ret3;exact⟨A1,c1,A2,c2,ns,bs,by rw[X.out.l1,X.out.l2];rfl,X.out.bel,by have h:=X.out.r1;rw[<-X.out.l1] at h;exact h,by have h:=X.out.r2;rw[<-X.out.l2] at h;exact h,EN.out,EB.out⟩
theorem MR (A:Option Addr)(c:Nat)(ds:List jd)(w:World)(hG:Gl w)(hd:qm w A ds)(hl:ds.length<=64)(ha:∀ d∈ds,d.alts.length<=64)(ht:∀ d∈ds,d.pl.told 1)(hc:jt (ds.map jd.pl)<=64):Calls Tryz.prog 83 #[.slice A ds.length c] w (J2 (kE 1 false (ds.map jd.pl)) (kE 1 true (ds.map jd.pl)) w):=by
 obtain⟨i0,hi,ax,aj,ap⟩:=info_parts Ll;obtain⟨i1,hj,aU,aK,aJ⟩:=info_parts Hv;have au:Hid (∀ bar,rx (yN bar (ds.map jd.pl))):=by
  intro bar;refine Xi (fun d hd=>?_) hc;obtain⟨x,hx,rfl⟩:=List.mem_map.1 hd;exact ht x hx
 have HG:=iV hG;have HD:=iV hd;have HT:=iV ht;have HA:=iV ha;clear hG hd ht ha hc;go_in;go_wp2;go_loopw [5,6,15] (fun s5 s6 aX wr=>∃ (k U c1 V c2:Nat) (A1 A2:Option Addr) (ns bs:List jE),k<=ds.length/\U<=k/\V<=k/\s5=.slice A1 U c1/\s6=.slice A2 V c2/\aX=.int .i64 k/\Hid (ns.map jE.pl=yN false ((ds.take k).map jd.pl))/\Hid (bs.map jE.pl=yN true ((ds.take k).map jd.pl))/\Hid (MQ w wr ns A1 U c1 bs A2 V c2)) (fun _ _ i _=>ds.length-(intOf i).toNat)
 case atStart=>exact⟨0,0,0,0,0,none,none,[],[],z0,z0,z0,rfl,rfl,rfl,rfl,rfl,MQ.start w⟩
 case round=>
  obtain⟨k,U,c1,V,c2,A1,A2,ns,bs,hk,bf,ba,rfl,rfl,rfl,HN,HB,F⟩:=hrel;by_cases av:k<ds.length
  ·obtain⟨d,J⟩:∃ d,ds[k]?=some d:=⟨_,gG av⟩
   have hm:=gM J;obtain⟨b,off,hA,he⟩:=(HD.out.row.below F.out.bel).elem pq k d J;have e0:=he 0 _ rfl;have e1:=he 1 _ rfl;simp only[Nat.add_zero] at e0;have aV:=fun W=>jm (T:=30) (E:=75) (sz:=2) (c:=c) Tryz.underlying30 rfl Tryz.sizeOf75 hA av W;have aS:=iV (HT.out d hm);have aQ:=HA.out d hm;have ab:=iV (MP (bar:=false) J);have af:=iV (MP (bar:=true) J);have aY:=iV ((HD.out.all d hm).below F.out.bel);obtain⟨I,K⟩:∃ I,d.alts.length=I:=⟨_,rfl⟩
   obtain⟨Y,ai⟩:∃ Y,d.bar=Y:=⟨_,rfl⟩
   rw[K] at e1 aQ;rw[ai] at e0 ab af;have az:=iV K;clear J hA he hm K ai;obtain⟨M,rfl⟩:∃ M:World,M=wr:=⟨_,rfl⟩
   obtain⟨W2,O⟩:∃ W2,M.alloc (.cells #[.bool Y,.slice d.aa I d.ac] 75)=W2:=⟨_,rfl⟩
   have B2:Hid (Below M.heap.size M W2):=by rw[<-O];exact bR.alloc lr _
   have K2:Hid (jh W2 M.heap.size [.bool Y,.slice d.aa I d.ac]):=by show jh _ _ _;rw[<-O];exact jh.new M [.bool Y,.slice d.aa I d.ac] _
   have k1:=K2.out.cell 1 _ rfl;have T0:Hid (U8 M W2 [.bool Y,.slice d.aa I d.ac] none 0 0 []):=⟨B2.out,K2.out,World.ownsRow_nil _ _ _ _,rfl,by have:=K2.out.sz;omega⟩
   have ah:=iV O;clear O;go_upto_region 5 with(fail)
   rw[ah.out];clear ah e0 e1 aV;go_wp2_with fail;clear k1;go_loopw [9,22] (fun s9 i wx=>∃ (j H:Nat) (G:Option Addr),j<=I/\s9=.slice G j H/\i=.int .i64 j/\Hid (U8 M wx [.bool Y,.slice d.aa I d.ac] G j H (d.alts.take j))) (fun _ i _=>I-(intOf i).toNat)
   case atStart=>exact⟨0,0,none,z0,rfl,rfl,by simpa [Hid] using T0⟩
   case round=>
    clear T0;obtain⟨j,H,G,bb,rfl,rfl,KI⟩:=hrel;by_cases X:j<I
    ·obtain⟨a,ha⟩:∃ a,d.alts[j]?=some a:=⟨_,gG (by rw[az.out];exact X)⟩
     obtain⟨b3,aZ,aF,N⟩:=(aY.out.below KI.out.bel).elem md j a ha;have e0:=N 0 _ rfl;have e1:=N 1 _ rfl;have e2:=N 2 _ rfl;simp only[Nat.add_zero] at e0;have am:=fun W=>jm (T:=34) (E:=78) (sz:=3) (n:=I) (c:=d.ac) Tryz.underlying34 rfl Tryz.sizeOf78 aF X W;have ao:0<=a.op:=(aS.out.each a (gM ha)).op0;have aH:=iV (jI ha);have aG:=iV (Xg ao);clear ha aF N ao;obtain⟨Z,R⟩:∃ Z,wr.alloc (.cells #[.string a.nm,.int .i64 a.op,.string a.ver] 78)=Z:=⟨_,rfl⟩
     have B5:Hid (Below wr.heap.size wr Z):=by rw[<-R];exact bR.alloc lr _
     have K5:Hid (jh Z wr.heap.size [.string a.nm,.int .i64 a.op,.string a.ver]):=by show jh _ _ _;rw[<-R];exact jh.new wr [.string a.nm,.int .i64 a.op,.string a.ver] _
     have I5:=iV (KI.out.step B5.out);have q0:=K5.out.cell 0 _ rfl;have bc:=K5.out.cell 1 _ rfl;have bd:=K5.out.cell 2 _ rfl;have aN:=iV I5.out.own;have be:=I5.out.sz;have ay:=iV R;clear R;go_upto_region 9 with(fail)
     rw[ay.out];clear ay e0 e1 e2 am
     go_wp2_with (
      at_builtin
      refine je _ rfl _ _ _ rfl (M.heap.size+1) 196 i1 _ 5 80 Tryz.underlying198 hj aU aK aJ rfl (by omega) (.slice G j H) j _ rfl (aN.out.alloc _) (Z.heap.size+1) (some ⟨Z.heap.size,0,none⟩) 1 1 [.string a.nm,.int .i64 a.op,.string a.ver,.string ⟨#[]⟩,.slice none 0 0] rfl (wT Z _ _ _ _ _ _) (by simp[Value.oneCell']) (by simp only[maxLen];omega) (by omega) (by simp;omega) ?_;intro v1 w6 y D z;obtain⟨G1,d1,rfl⟩:=jk y)
     have N1:=iV (I5.out.app _ (x:=a) (by rw[aG.out];exact y) D);clear y D z;go_wp2;go_roundw
     case rel=>exact⟨j+1,d1,G1,by omega,rfl,by go_num,by rw[aH.out];exact N1⟩
     case measure=>simp[intOf];omega
    ·obtain rfl:j=I:=by omega
     have aM:Hid (d.alts.take j=d.alts):=by show _=_;rw[tL (by have:=az.out;omega)]
     rw[aM.out] at KI;have S2:=iV (F.out.below KI.out.bel);have aP:=iV (KI.out.grp);have aA:=iV (KI.out.sl);have aC:Hid ((⟨G,H,d.alts.map Ny⟩:jE).own wr w.heap.size):=aP.out.base (by have:=F.out.bel.size;omega);have x0:=KI.out.dbx.cell 0 _ rfl;have bg:=S2.out.bel.size;cases Y
     ·have HO:=iV S2.out.r1
      go_wp2_with (
       at_builtin
       refine je _ rfl _ _ _ rfl w.heap.size 198 i0 _ 1 24 Tryz.underlying83 hi ax aj ap rfl (by omega) (.slice A1 U c1) U _ rfl (HO.out.alloc _) (wr.heap.size+1) (some ⟨wr.heap.size,0,none⟩) 1 1 [.slice G j H] rfl (oe wr _ _) (by simp[Value.oneCell']) (by simp only[maxLen];omega) (by omega) (by simp;omega) ?_;intro v1 w6 y D z;obtain⟨O1,d1,rfl⟩:=jk y)
      have N1:=iV (S2.out.add1 (s:=⟨G,H,d.alts.map Ny⟩) (o:=.cells #[.slice G j H] 198) aC.out (by rw[aA.out];exact y) D z);clear y D z;go_wp2;go_roundw
      case rel=>exact⟨k+1,U+1,d1,V,c2,O1,A2,ns++[⟨G,H,d.alts.map Ny⟩],bs,by omega,by omega,by omega,rfl,rfl,by go_num,by show _=_;rw[ab.out,List.map_append,HN.out,if_pos rfl,List.map_singleton,Xj],by show _=_;rw[af.out,HB.out,if_neg (by simp),List.append_nil],N1⟩
      case measure=>simp[intOf];omega
     ·have HO:=iV S2.out.r2
      go_wp2_with (
       at_builtin
       refine je _ rfl _ _ _ rfl w.heap.size 198 i0 _ 1 24 Tryz.underlying83 hi ax aj ap rfl (by omega) (.slice A2 V c2) V _ rfl (HO.out.alloc _) (wr.heap.size+1) (some ⟨wr.heap.size,0,none⟩) 1 1 [.slice G j H] rfl (oe wr _ _) (by simp[Value.oneCell']) (by simp only[maxLen];omega) (by omega) (by simp;omega) ?_;intro v1 w6 y D z;obtain⟨O1,d1,rfl⟩:=jk y)
      have N1:=iV (S2.out.add2 (s:=⟨G,H,d.alts.map Ny⟩) (o:=.cells #[.slice G j H] 198) aC.out (by rw[aA.out];exact y) D z);clear y D z;go_wp2;go_roundw
      case rel=>exact⟨k+1,U,c1,V+1,d1,A1,O1,ns,bs++[⟨G,H,d.alts.map Ny⟩],by omega,by omega,by omega,rfl,rfl,by go_num,by show _=_;rw[ab.out,HN.out,if_neg (by simp),List.append_nil],by show _=_;rw[af.out,List.map_append,HB.out,if_pos rfl,List.map_singleton,Xj],N1⟩
      case measure=>simp[intOf];omega
  ·have EN:Hid (ns.map jE.pl=yN false (ds.map jd.pl)):=by show _=_;rw[HN.out,tL (by omega)]
   have EB:Hid (bs.map jE.pl=yN true (ds.map jd.pl)):=by show _=_;rw[HB.out,tL (by omega)]
   have P1:=iV (fun (wx:World) (hb:Below wr.heap.size wr wx)=>Fk A1 c1 w.heap.size ns wx (HG.out.below (jc F.out.bel hb)) (yk.of (by rw[EN.out];exact au.out false)) (by rw[F.out.l1];exact(F.out.below hb).ok1));have P2:=iV (fun (wx:World) (hb:Below wr.heap.size wr wx)=>Fk A2 c2 w.heap.size bs wx (HG.out.below (jc F.out.bel hb)) (yk.of (by rw[EB.out];exact au.out true)) (by rw[F.out.l2];exact(F.out.below hb).ok2));rw[EN.out,F.out.l1,<-II] at P1;rw[EB.out,F.out.l2,<-II] at P2;go_wp2_with fail;refine(P1.out wr bR).mono ?_;rintro e w5 ⟨B1,d1,xs,rfl,aq,ak,aE⟩;have ae:=iV aq;have aL:=iV ak;have aW:=iV aE;obtain⟨xn,ad⟩:∃ xn,xs.length=xn:=⟨_,rfl⟩
   rw[ad];have aT:=iV ad;clear aq ak aE ad;go_wp2_with fail;refine(P2.out w5 ae.out).mono ?_;rintro e w6 ⟨B2,d2,ys,rfl,ar,aB,an⟩;have aD:=iV ar;have aO:=iV aB;have aI:=iV an;obtain⟨yn,ag⟩:∃ yn,ys.length=yn:=⟨_,rfl⟩
   rw[ag];have aR:=iV ag;clear ar aB an ag;go_wp2;go_ret3;exact⟨B1,d1,B2,d2,xs,ys,by rw[aT.out,aR.out];rfl,jc (jc F.out.bel ae.out) aD.out,(aL.out.below aD.out).mono F.out.bel.size,aO.out.mono (Nat.le_trans F.out.bel.size ae.out.size),aW.out,aI.out⟩
def zP:jA:=⟨false,[]⟩
def GM (fmt:Int)(l:List jA)(k:Nat):List jA:=(l.take k).map (nf 1 fmt)++List.replicate (l.length-k) zP
def J3 (fmt:Int)(l:List jA)(k:Nat)(d:jA)(j:Nat):List jA:=(l.take k).map (nf 1 fmt)++⟨d.bar,(d.alts.take j).map fun g=>(jG 1 fmt g).1⟩::List.replicate (l.length-(k+1)) zP
theorem Xn (fmt:Int)(l:List jA):GM fmt l 0=(List.replicate l.length Fl).map jd.pl:=by
 unfold GM;simp[Fl,jd.pl,zP]
theorem Y6 (fmt:Int)(l:List jA):GM fmt l l.length=l.map (nf 1 fmt):=by unfold GM;simp
theorem Xo {l:List jA}{d:jA}(h:l[k]?=some d):J3 fmt l k d d.alts.length=GM fmt l (k+1):=by
 unfold J3 GM;rw[jI h,List.map_append,List.take_length];simp[nf]
theorem Xp {L:List jd}{a b:List jA}{y:jA}(h:L.map jd.pl=a++y::b)(hk:a.length=k):∃ x,L[k]?=some x/\x.pl=y:=by
 have:(L.map jd.pl)[k]?=some y:=by rw[h,List.getElem?_append_right (by omega)];simp[hk]
 rw[List.getElem?_map] at this;cases hx:L[k]? with
 | none=>rw[hx] at this;cases this
 | some x=>rw[hx] at this;injection this with this;exact⟨x,rfl,this⟩
theorem map_set {L:List jd}{a b:List jA}{y:jA}(h:L.map jd.pl=a++y::b)(hk:a.length=k)(x:jd):(L.set k x).map jd.pl=a++x.pl::b:=by
 rw[List.map_set,h,List.set_append_right _ _ (by omega)];simp[hk]
theorem Y7 {l:List jA}{L:List jd}(hk:k<l.length)(h:L.map jd.pl=GM fmt l k)(d:jA):
  ∃ x:jd,L[k]?=some x/\x.bar=false/\x.alts=[]/\(L.set k { x with bar:=d.bar }).map jd.pl=J3 fmt l k d 0:=by
 have e:List.replicate (l.length-k) zP=zP::List.replicate (l.length-(k+1)) zP:=by
  rw[show l.length-k=(l.length-(k+1))+1 by omega,List.replicate_succ]
 unfold GM at h;rw[e] at h;have D:((l.take k).map (nf 1 fmt)).length=k:=by simp;omega
 obtain⟨x,H,y⟩:=Xp h D;have F:x.bar=false:=congrArg jA.bar y;have z:x.alts=[]:=congrArg jA.alts y;refine⟨x,H,F,z,?_⟩;rw[map_set h D];unfold J3 jd.pl;simp[z]
theorem Y8 {l:List jA}{L:List jd}{d:jA}{g:jf}(hk:k<l.length)(h:L.map jd.pl=J3 fmt l k d j)(hg:d.alts[j]?=some g):
  ∃ x:jd,L[k]?=some x/\x.alts.length=j/\∀ (G:Option Addr)(c1:Nat),(L.set k ⟨x.bar,G,c1,x.alts++[(jG 1 fmt g).1]⟩).map jd.pl=J3 fmt l k d (j+1):=by
 unfold J3 at h;have D:((l.take k).map (nf 1 fmt)).length=k:=by simp;omega
 obtain⟨x,H,y⟩:=Xp h D;have F:x.bar=d.bar:=congrArg jA.bar y;have z:x.alts=(d.alts.take j).map fun g=>(jG 1 fmt g).1:=congrArg jA.alts y;have I:=(gS hg).1;refine⟨x,H,by rw[z];simp;omega,fun G c1=>?_⟩;rw[map_set h D];unfold J3 jd.pl;simp[F,z,jI hg]
def Qc (fmt:Int)(l:List jA)(w:World)(e:Ending)(w':World):Prop:=
 ∃ (A1:Option Addr) (c1:Nat) (A2:Option Addr) (c2:Nat) (ns bs:List BA),e=.returned (.tuple #[.slice A1 ns.length c1,.slice A2 bs.length c2,.int .i64 (za fmt l)])/\Below w.heap.size w w'/\rg w.heap.size w' A1 c1 ns/\rg w.heap.size w' A2 c2 bs /\
  (za fmt l=0->ns.map bl=xz fmt false l/\bs.map bl=xz fmt true l)/\(za fmt l≠0->ns=[]/\bs=[])
theorem Rx {l:List jA}{e:Int}(h:za fmt l=e)(h0:e≠0)(hb:Below w.heap.size w w'):Qc fmt l w (.returned (.tuple #[.slice none 0 0,.slice none 0 0,.int .i64 e])) w':=
 ⟨none,0,none,0,[],[],by rw[h];rfl,hb,rg.nil _ _,rg.nil _ _,fun y=>absurd (h.symm.trans y) h0,fun _=>⟨rfl,rfl⟩⟩
theorem Y9 {l:List jA}(h:¬ lE fmt):za fmt l=9:=by unfold za;rw[if_pos h]
theorem aaz {l:List jA}(h:lE fmt)(hc:pD l≠0):za fmt l=pD l:=by unfold za;rw[if_neg (fun y=>y h),if_pos hc]
theorem ZQ {ds:List jd}{d:jd}(h:lE fmt)(hc:pD (ds.map jd.pl)=0)(hd:ds[k]?=some d)(h0:∀ y∈ds.take k,sj fmt y.pl=0)(he:sj fmt d.pl≠0):za fmt (ds.map jd.pl)=sj fmt d.pl:=by
 unfold za;rw[if_neg (fun D=>D h),if_neg (fun D=>D hc)];refine tM (k:=k) (by simp[hd]) (fun y F=>?_) he;rw[<-List.map_take] at F;obtain⟨z,H,rfl⟩:=List.mem_map.1 F;exact h0 z H
theorem Za {ds:List jd}(h:lE fmt)(hc:pD (ds.map jd.pl)=0)(h0:∀ y∈ds,sj fmt y.pl=0):za fmt (ds.map jd.pl)=0:=by
 unfold za;rw[if_neg (fun D=>D h),if_neg (fun D=>D hc),jM];intro y H;obtain⟨z,F,rfl⟩:=List.mem_map.1 H;exact h0 z F
theorem UC {d:jA}(h:fmt=3)(h1:1<d.alts.length):sj fmt d=11:=by unfold sj;rw[if_pos ⟨h,h1⟩]
theorem UD {d:jA}{g:jf}(h:¬ (fmt=3/\1<d.alts.length))(hg:d.alts[j]?=some g)(h0:∀ y∈d.alts.take j,(jG 1 fmt y).2=0)(he:(jG 1 fmt g).2≠0):sj fmt d=(jG 1 fmt g).2:=by
 unfold sj;rw[if_neg h];exact tM (f:=fun g=>(jG 1 fmt g).2) hg h0 he
theorem UE {d:jA}(h:¬ (fmt=3/\1<d.alts.length))(h0:∀ y∈d.alts,(jG 1 fmt y).2=0):sj fmt d=0:=by
 unfold sj;rw[if_neg h];exact jM.2 h0
theorem UF {l:List jA}(h:pD l=0):jt l<=64/\∀ d∈l,vP d=0:=by
 unfold pD at h;split at h
 ·cases h
 ·exact⟨by omega,jM.1 h⟩
structure aa5 (fmt:Int) (L:List jd):Prop where
 told:∀ d∈L,d.pl.told fmt
 cnt:jt (L.map jd.pl)<=64
 len:L.length<=64
 al:∀ d∈L,d.alts.length<=64
theorem aaA {l:List jA}{L:List jd}(hf:lE fmt)(hc:pD l=0)(h0:∀ y∈l,sj fmt y=0)(h:L.map jd.pl=l.map (nf 1 fmt)):aa5 fmt L:=by
 obtain⟨I,H⟩:=UF hc;have ht:∀ d∈L,d.pl.told fmt:=by
  intro d z;have:d.pl∈l.map (nf 1 fmt):=by rw[<-h];exact List.mem_map.2 ⟨d,z,rfl⟩
  obtain⟨y,F,e⟩:=List.mem_map.1 this;rw[<-e];exact(vE hf (H y F) (h0 y F)).1
 have D:jt (L.map jd.pl)<=64:=by rw[h,sq];exact I
 refine⟨ht,D,?_,fun d z=>?_⟩
 ·have:=qG (l:=L.map jd.pl) (fun d z=>by obtain⟨x,J,rfl⟩:=List.mem_map.1 z;exact(ht x J).ne);rw[List.length_map] at this;omega
 ·have:=vf (l:=L.map jd.pl) (List.mem_map.2 ⟨d,z,rfl⟩);have e:d.pl.alts.length=d.alts.length:=rfl;omega
theorem Xu {L:List jd}{g n c:Nat}{x:jd}(h:pt w wr L (some ⟨g,0,none⟩) n c)(hk:L[k]?=some x):wr.cell? ⟨g,k*2,none⟩=some (.bool x.bar)/\wr.cell? ⟨g,k*2+1,none⟩=some (.slice x.aa x.alts.length x.ac):=by
 have F:=h.ok.row;obtain⟨b,off,e,D⟩:=F.elem pq k x hk;injection e with e;injection e with e1 e2;have z:=D 0 _ rfl;have y:=D 1 _ rfl;rw[<-e1,<-e2] at z y;simp only[Nat.zero_add,Nat.add_zero] at z y;exact⟨z,y⟩
theorem Zc (fmt:Int)(A:Option Addr)(c:Nat)(ds:List jd)(w:World)(hG:xC w)(hd:qm w A ds)(hf:J1 ds):Calls Tryz.prog 48 #[.int .i64 fmt,.slice A ds.length c] w (Qc fmt (ds.map jd.pl) w):=by
 obtain⟨i0,hi,br,bg,bk⟩:=info_parts sr;obtain⟨i1,hj,bx,bm,bj⟩:=info_parts Ae;have HG:=iV hG;have HD:=iV hd;have HF:=iV hf;have bG:=hf.len;have Z:=iV fun W=>wn fmt W;clear hG hd hf;by_cases hF:lE fmt
 rotate_left
 ·have E:=iV (Y9 (l:=ds.map jd.pl) hF);rw[dF hF] at Z;clear hF;go_in;go_wp2_with fail;refine(Z.out _).mono ?_;rintro e w' ⟨rfl,rfl⟩;go_wp2;go_ret3;exact Rx E.out (by decide) bR
 rw[dT hF] at Z;have O:=iV hF;clear hF;obtain⟨ck,aB⟩:∃ ck,pD (ds.map jd.pl)=ck:=⟨_,rfl⟩
 have aH:=iV fun W hb=>P8 A c ds W (HG.out.p.below hb) (HD.out.below hb) HF.out;rw[aB] at aH;have aq:=iV aB;clear aB;go_in;go_wp2_with fail;refine(Z.out _).mono ?_;rintro e w' ⟨rfl,rfl⟩;clear Z;go_wp2_with fail;refine(aH.out w bR).mono ?_;rintro e w0 ⟨rfl,aE⟩;have B0:=iV aE;have bH:=aE.size;clear aE aH;by_cases K:ck≠0
 ·have E:Hid (za fmt (ds.map jd.pl)=ck):=by show _=_;rw[aaz O.out (by rw[aq.out];exact K)];exact aq.out
  have q:(ck != 0)=true:=by simpa [bne] using K
  have bv:=iV K;clear K;go_wp2;go_ret3;exact Rx E.out bv.out B0.out
 have q:(ck != 0)=false:=by rw[Decidable.not_not.1 K];rfl
 have HC:Hid (pD (ds.map jd.pl)=0):=by show _=_;rw[aq.out];exact Decidable.not_not.1 K
 clear K aq
 go_wp2_with (
  at_make
  refine wpList_make_full _ rfl _ _ _ rfl w.heap.size 75 i0 _ 2 Tryz.underlying30 hi br bg .i64 .i64 _ _ ds.length rfl rfl rfl rfl (by rw[bk];omega) (by simp only[maxLen];omega) (by omega) ?_;intro w1 aZ R)
 have M0:=iV (pt.made B0.out aZ R);clear aZ R q;go_wp2_with fail;generalize w0.heap.size=ob at *;go_loopw [5,28] (fun s5 bu wr=>∃ (k:Nat) (L:List jd),k<=ds.length/\s5=.slice none 0 0/\bu=.int .i64 k/\Hid (∀ y∈ds.take k,sj fmt y.pl=0)/\Hid (L.map jd.pl=GM fmt (ds.map jd.pl) k)/\Hid (pt w wr L (some ⟨ob,0,none⟩) ds.length ds.length)) (fun _ i _=>ds.length-(intOf i).toNat)
 case atStart=>exact⟨0,_,z0,rfl,rfl,by simp[Hid],by show _=_;rw[Xn,List.length_map],M0⟩
 case round=>
  clear M0;obtain⟨k,L,hk,rfl,rfl,HE,HL,I⟩:=hrel;by_cases Y:k<ds.length
  ·obtain⟨d,V⟩:∃ d,ds[k]?=some d:=⟨_,gG Y⟩
   have hm:=gM V;obtain⟨b,off,hA,he⟩:=(HD.out.row.below I.out.bel).elem pq k d V;have e0:=he 0 _ rfl;have e1:=he 1 _ rfl;simp only[Nat.add_zero] at e0;have bz:=fun W=>jm (T:=30) (E:=75) (sz:=2) (c:=c) Tryz.underlying30 rfl Tryz.sizeOf75 hA Y W;have bI:∀ W,(Instr.indexAt 30 (.slice (some ⟨ob,0,none⟩) ds.length ds.length) (.int .i64 k)).run Tryz.prog W=.ok (.pointer (some ⟨ob,k*2,none⟩)) W:=fun W=>by
    have:=jm (T:=30) (E:=75) (sz:=2) (c:=ds.length) (A:=some ⟨ob,0,none⟩) Tryz.underlying30 rfl Tryz.sizeOf75 rfl Y W;simpa using this
   have bt:=HF.out.al d hm;have bo:=iV (HF.out.nm d hm);have bi:=iV (HF.out.ver d hm);have aD:=iV V;have bD:=iV (HD.out.all d hm);have aR:(ds.map jd.pl)[k]?=some d.pl:=by simp[V]
   have bp:=iV aR;obtain⟨H,D⟩:∃ H,d.alts.length=H:=⟨_,rfl⟩
   obtain⟨db,av⟩:∃ db,d.bar=db:=⟨_,rfl⟩
   rw[D] at e1 bt;rw[av] at e0;have ad:=iV D;have aJ:=iV av;have aT:Hid (k<(ds.map jd.pl).length):=by show _<_;rw[List.length_map];exact Y
   clear V hA he hm D av aR;obtain⟨wo,rfl⟩:∃ wo:World,wo=wr:=⟨_,rfl⟩
   obtain⟨W2,ag⟩:∃ W2,wo.alloc (.cells #[.bool db,.slice d.aa H d.ac] 75)=W2:=⟨_,rfl⟩
   have B2:Hid (Below wo.heap.size wo W2):=by rw[<-ag];exact bR.alloc lr _
   have K2:Hid (jh W2 wo.heap.size [.bool db,.slice d.aa H d.ac]):=by show jh _ _ _;rw[<-ag];exact jh.new wo [.bool db,.slice d.aa H d.ac] _
   have k0:=K2.out.cell 0 _ rfl;have k1:=K2.out.cell 1 _ rfl;have S1:=iV (I.out.below B2.out);have aI:=iV ag;clear ag;go_upto_region 10 with(fail)
   rw[aI.out];clear aI e0 e1 bz;obtain⟨bb,F⟩:∃ bb,decide (fmt=3/\1<H)=bb:=⟨_,rfl⟩
   go_cut [40] (fun v wx=>v=.bool bb/\W2=wx)
   case first=>
    by_cases f3:fmt=3
    ·have q3:(fmt==3)=true:=by simpa using f3
     by_cases h1:1<H
     ·have q1:decide ((1:Int)<(H:Int))=true:=dT (by omega);have q2:decide (1<H)=true:=dT h1;have ab:Hid (true=bb):=by show _=_;rw[<-F,dT ⟨f3,h1⟩]
      clear f3 F;go_wp2;go_meet;exact⟨by rw[<-ab.out],rfl⟩
     ·have q1:decide ((1:Int)<(H:Int))=false:=dF (by omega);have q2:decide (1<H)=false:=dF h1;have ab:Hid (false=bb):=by show _=_;rw[<-F,dF (fun h=>h1 h.2)]
      clear f3 F;go_wp2;go_meet;exact⟨by rw[<-ab.out],rfl⟩
    ·have q3:(fmt==3)=false:=by simpa using f3
     have ab:Hid (false=bb):=by show _=_;rw[<-F,dF (fun h=>f3 h.1)]
     clear f3 F;go_wp2;go_meet;exact⟨by rw[<-ab.out],rfl⟩
   case rest=>
   obtain⟨rfl,rfl⟩:=hcut;cases bb
   rotate_left
   ·have E:Hid (za fmt (ds.map jd.pl)=11):=by
     have h:=dO F;have e:=UC (d:=d.pl) h.1 (by show 1<d.alts.length;rw[ad.out];exact h.2);show _=_;rw[ZQ O.out HC.out aD.out HE.out (by rw[e];decide)];exact e
    clear F;go_wp2;go_ret3;exact Rx E.out (by decide) S1.out.bel
   have ba:Hid (¬ (fmt=3/\1<d.pl.alts.length)):=by
    have h:=of_decide_eq_false F;show ¬ (fmt=3/\1<d.alts.length);rw[ad.out];exact h
   clear F;obtain⟨x,aG,bn,bf,aU⟩:=Y7 aT.out HL.out d.pl;obtain⟨c0,_⟩:=Xu S1.out aG;have f0:=S1.out.row.frozenAt (k*2);have bL:=(I.out.row.lt ob rfl).2;have bA:¬ ob=wo.heap.size:=by omega
   obtain⟨W3,am⟩:∃ W3,W2.setCell ⟨ob,k*2,none⟩ (.bool db)=W3:=⟨_,rfl⟩
   have S3:Hid (pt w W3 (L.set k { x with bar:=d.pl.bar }) (some ⟨ob,0,none⟩) ds.length ds.length):=by
    show pt _ _ _ _ _ _;rw[<-am];have:=S1.out.setBar aG d.bar;rw[aJ.out] at this;show pt _ _ (L.set k { x with bar:=d.bar }) _ _ _;rw[aJ.out];exact this
   have aQ:=iV aU;have K3:Hid (jh W3 wo.heap.size [.bool db,.slice d.aa H d.ac]):=by show jh _ _ _;rw[<-am];exact K2.out.far bA _
   have k3:=K3.out.cell 1 _ rfl;have aX:=iV am;clear am aG bn bf aU;go_upto_region 13 with(fail)
   rw[aX.out];clear aX k0 k1 c0 f0;go_wp2_with fail;clear k3;go_loopw [5,50] (fun s5 bB wx=>∃ (j:Nat) (L:List jd),j<=H/\s5=.slice none 0 0/\bB=.int .i64 j/\Hid (∀ g∈d.pl.alts.take j,(jG 1 fmt g).2=0)/\Hid (L.map jd.pl=J3 fmt (ds.map jd.pl) k d.pl j)/\Hid (pt w wx L (some ⟨ob,0,none⟩) ds.length ds.length)) (fun _ i _=>H-(intOf i).toNat)
   case atStart=>exact⟨0,_,z0,rfl,rfl,by simp[Hid],aQ,S3⟩
   case round=>
    clear S3 aQ I S1 K2 K3 B2 HL;obtain⟨j,L2,bJ,rfl,rfl,HJ,HL,I⟩:=hrel;by_cases au:j<H
    ·obtain⟨a,ha⟩:∃ a,d.pl.alts[j]?=some a:=⟨_,gG (by show j<d.alts.length;rw[ad.out];exact au)⟩
     have az:=gM ha;obtain⟨b3,bF,bd,af⟩:=(bD.out.below I.out.bel).elem md j a ha;have e0:=af 0 _ rfl;have e1:=af 1 _ rfl;have e2:=af 2 _ rfl;simp only[Nat.add_zero] at e0;have aK:=fun W=>jm (T:=34) (E:=78) (sz:=3) (n:=H) (c:=d.ac) Tryz.underlying34 rfl Tryz.sizeOf78 bd au W;have bN:=bo.out a az;have bO:=bi.out a az;have aO:=iV ha;have ax:=iV (jI ha);clear ha bd af az;obtain⟨W5,an⟩:∃ W5,wr.alloc (.cells #[.string a.nm,.int .i64 a.op,.string a.ver] 78)=W5:=⟨_,rfl⟩
     have B5:Hid (Below wr.heap.size wr W5):=by rw[<-an];exact bR.alloc lr _
     have K5:Hid (jh W5 wr.heap.size [.string a.nm,.int .i64 a.op,.string a.ver]):=by show jh _ _ _;rw[<-an];exact jh.new wr [.string a.nm,.int .i64 a.op,.string a.ver] _
     have S5:=iV (I.out.below B5.out);have q0:=K5.out.cell 0 _ rfl;have q1:=K5.out.cell 1 _ rfl;have q2:=K5.out.cell 2 _ rfl;obtain⟨⟨y,cd⟩,hr⟩:∃ r,jG 1 fmt a=r:=⟨_,rfl⟩
     have ah:=iV (AX 1 fmt a W5 (HG.out.p.below S5.out.bel) (by omega) (by omega));rw[hr] at ah;unfold WK jf.val at ah;have HR:=iV hr;have aY:=iV an;clear an hr;go_upto_region 16 with(fail)
     rw[aY.out];clear aY e0 e1 e2 aK;go_wp2_with fail;refine ah.out.mono ?_;rintro e U ⟨rfl,aS⟩;have S6:=iV (S5.out.below aS);clear aS ah q0 q1 q2;simp only;obtain⟨W7,ao⟩:∃ W7,U.alloc (.cells #[.string y.nm,.int .i64 y.op,.string y.ver] 78)=W7:=⟨_,rfl⟩
     have B7:Hid (Below U.heap.size U W7):=by rw[<-ao];exact bR.alloc lr _
     have K7:Hid (jh W7 U.heap.size [.string y.nm,.int .i64 y.op,.string y.ver]):=by show jh _ _ _;rw[<-ao];exact jh.new U [.string y.nm,.int .i64 y.op,.string y.ver] _
     have S7:=iV (S6.out.below B7.out);have aN:=iV ao;clear ao;go_upto_region 17 with(fail)
     rw[aN.out];clear aN;by_cases N:cd≠0
     ·have qc:(cd != 0)=true:=by simpa [bne] using N
      have E:Hid (za fmt (ds.map jd.pl)=cd):=by
       have e:=UD ba.out aO.out HJ.out (by rw[HR.out];exact N);rw[HR.out] at e;show _=_;rw[ZQ O.out HC.out aD.out HE.out (by rw[e];exact N)];exact e
      have bq:=iV N;clear N;go_wp2;go_ret3;exact Rx E.out bq.out S7.out.bel
     have ae:cd=0:=Decidable.not_not.1 N;have qc:(cd != 0)=false:=by rw[ae];rfl
     have HZ:Hid ((jG 1 fmt a).2=0):=by show _=_;rw[HR.out];exact ae
     have HY:Hid ((jG 1 fmt a).1=y):=by show _=_;rw[HR.out]
     clear N ae;obtain⟨X,ai,aj,aC⟩:=Y8 aT.out HL.out aO.out;rw[HY.out] at aC;have aL:=iV ai;have aP:=iV aj;have bh:=iV aC;obtain⟨_,m1⟩:=Xu S7.out ai;rw[aj] at m1;have bc:Hid (W7.ownsRow w.heap.size 78 3 (.slice X.aa j X.ac) j (X.alts.flatMap jf.cells)):=by
      have:=S7.out.al X (gM ai);unfold jd.own at this;rw[aj] at this;exact this
     have p0:=K7.out.cell 0 _ rfl;have p1:=K7.out.cell 1 _ rfl;have p2:=K7.out.cell 2 _ rfl;have bM:=S7.out.bel.size;have bE:=(S7.out.row.lt ob rfl).2;clear ai aj aC;go_wp2
     go_region_law
      ((refine kr _ (by rfl) _ _ _ (by rfl) w.heap.size 78 i1 _ 3 40 Tryz.underlying34 hj bx bm bj rfl (by omega) (.slice X.aa j X.ac) j _ (by rfl) ((bc.out.alloc _).drew)
         (W7.heap.size+1) (some ⟨W7.heap.size,0,none⟩) 1 1 [.string y.nm,.int .i64 y.op,.string y.ver] (by rfl) (qv W7 _ _ _ _) (by simp[Value.oneCell']) (by unfold maxLen;omega) (by omega) (by simp;omega) ?_
        intro v1 w8 M R ar;obtain⟨G1,c1,rfl⟩:=jk M;have ap:=iV (S7.out.below (((Below.refl W7.heap.size W7).alloc lr (.cells #[.string y.nm,.int .i64 y.op,.string y.ver] 78)).drew));have RW:=iV (ap.out.row.kept R (rU ap.out.row ((bc.out.alloc (.cells #[.string y.nm,.int .i64 y.op,.string y.ver] 78)).drew) (by decide)));obtain⟨_,_,ee,be⟩:=(show Rd w8 2 (some ⟨ob,0,none⟩) L2.length (L2.flatMap jd.cells) from by rw[ap.out.len];exact jL RW.out).elem pq k X aL.out;have m2:=be 1 _ rfl;injection ee with ee;injection ee with ee1 ee2;subst ee1;subst ee2;rw[aP.out] at m2;simp only[Nat.zero_add] at m2;have bK:=RW.out.frozenAt (k*2+1)))
     all_goals
      have N1:=iV (ap.out.setAlt aL.out aP.out M R ar);clear M R ar;go_wp2;go_roundw
      case rel=>exact⟨j+1,_,by omega,rfl,by go_num,iV (fun z J=>by
       rw[ax.out] at J;rcases List.mem_append.1 J with J | J
       ·exact HJ.out z J
       ·rw[List.mem_singleton.1 J];exact HZ.out),bh.out _ _,N1⟩
      case measure=>simp[intOf];omega
    ·obtain rfl:j=H:=by omega
     have bC:Hid (sj fmt d.pl=0):=UE ba.out (fun g hg=>HJ.out g (by rw[tL (by show d.alts.length<=j;rw[ad.out];exact Nat.le_refl _)];exact hg));have bw:Hid (L2.map jd.pl=GM fmt (ds.map jd.pl) (k+1)):=by show _=_;rw[<-Xo bp.out,HL.out];rw[show d.pl.alts.length=j from ad.out]
     have ax:=iV (jI aD.out);go_wp2;go_roundw
     case rel=>exact⟨k+1,L2,by omega,rfl,by go_num,iV (fun z J=>by
      rw[ax.out] at J;rcases List.mem_append.1 J with J | J
      ·exact HE.out z J
      ·rw[List.mem_singleton.1 J];exact bC.out),bw,I⟩
     case measure=>simp[intOf];omega
  ·obtain rfl:k=ds.length:=by omega
   have D:∀ y∈ds,sj fmt y.pl=0:=fun y hy=>HE.out y (by rw[List.take_length];exact hy);have E:=iV (Za O.out HC.out D);have ak:Hid (L.map jd.pl=(ds.map jd.pl).map (nf 1 fmt)):=by
    have:=HL.out;rw[show ds.length=(ds.map jd.pl).length by simp,Y6] at this;exact this
   have OK:=iV (aaA O.out HC.out (fun y hy=>by obtain⟨z,J,rfl⟩:=List.mem_map.1 hy;exact D z J) ak.out);have aF:=iV I.out.len;have ay:=iV (HG.out.p.gl.below I.out.bel);have aW:∀ (U:World)(e:Ending),J2 (xz fmt false (ds.map jd.pl)) (xz fmt true (ds.map jd.pl)) wr e U->Qc fmt (ds.map jd.pl) w e U:=by
    rintro U e ⟨A1,c1,A2,c2,ns,bs,h1,h2,h3,h4,h5,h6⟩;exact⟨A1,c1,A2,c2,ns,bs,by rw[h1,E.out],jc I.out.bel h2,h3.mono I.out.bel.size,h4.mono I.out.bel.size,fun _=>⟨h5,h6⟩,fun h=>absurd E.out h⟩
   have aA:=iV aW;clear D aW Y;have aM:=O.out;unfold lE at aM;have aV:fmt=1\/fmt=2\/fmt=3:=by omega
   clear aM;rcases aV with rfl | rfl | rfl
   ·have P:=iV (MR (some ⟨ob,0,none⟩) ds.length L wr ay.out I.out.ok OK.out.len OK.out.al OK.out.told OK.out.cnt);rw[aF.out,ak.out] at P;go_wp2_with fail;refine P.out.mono ?_;rintro e U ⟨A1,c1,A2,c2,ns,bs,rfl,h2,h3,h4,h5,h6⟩;have PP:=iV (aA.out _ _ ⟨A1,c1,A2,c2,ns,bs,rfl,h2,h3,h4,h5,h6⟩);clear h2 h3 h4 h5 h6;generalize ns.length=nn at *;generalize bs.length=nb at *;go_wp2;go_ret3;exact PP.out
   ·have P:=iV (Qb (some ⟨ob,0,none⟩) ds.length L wr ay.out I.out.ok OK.out.len OK.out.al OK.out.told);rw[aF.out,ak.out] at P;go_wp2_with fail;refine P.out.mono ?_;rintro e U ⟨A1,c1,A2,c2,ns,bs,rfl,h2,h3,h4,h5,h6⟩;have PP:=iV (aA.out _ _ ⟨A1,c1,A2,c2,ns,bs,rfl,h2,h3,h4,h5,h6⟩);clear h2 h3 h4 h5 h6;generalize ns.length=nn at *;generalize bs.length=nb at *;go_wp2;go_ret3;exact PP.out
   ·have P:=iV (P9 (some ⟨ob,0,none⟩) ds.length L wr ay.out I.out.ok OK.out.len OK.out.told);rw[aF.out,ak.out] at P;go_wp2_with fail;refine P.out.mono ?_;rintro e U ⟨A1,c1,ns,rfl,h2,h3,h5⟩;have PP:=iV (aA.out _ _ ⟨A1,c1,none,0,ns,[],rfl,h2,h3,rg.nil _ _,h5,(by unfold xz kE;simp)⟩);clear h2 h3 h5;generalize ns.length=nn at *;go_wp2;go_ret3;exact PP.out
end
end Go.Proofs.YtkmjcombhjombaaGreatDoor
