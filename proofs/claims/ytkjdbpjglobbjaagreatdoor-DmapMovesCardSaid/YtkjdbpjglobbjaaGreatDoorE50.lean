/- A part of the proof of a law on dependencies in three formats. No condition. -/
import Derived.Test.YtkjdbpjglobbjaaGreatDoorE42
import Derived.Test.YtkjdbpjglobbjaaGreatDoorE48
import Derived.Test.YtkjdbpjglobbjaaGreatDoorE49
set_option maxRecDepth 100000
set_option maxHeartbeats 20000000
set_option linter.unusedVariables false
set_option linter.unusedSimpArgs false
namespace Go.Proofs.YtkjdbpjglobbjaaGreatDoor
section
open Go.RowKit
theorem JH (w:World)(t:TypeId)(a b c d e:Value):jQ (w.alloc (.cells #[a,b,c,d,e] t)) (w.heap.size+1) 5 (some ⟨w.heap.size,0,none⟩) 1 [a,b,c,d,e]:=by
 refine⟨rfl,fun _=>⟨_,rfl,by simp,fun j u hu=>?_⟩⟩
 match j,hu with
 | 0,hu=>simp at hu;subst hu;simp[Addr.add]
 | 1,hu=>simp at hu;subst hu;simp[Addr.add]
 | 2,hu=>simp at hu;subst hu;simp[Addr.add]
 | 3,hu=>simp at hu;subst hu;simp[Addr.add]
 | 4,hu=>simp at hu;subst hu;simp[Addr.add]
 | j+5,hu=>simp at hu
structure Nc (W0 wr:World) (b B1:Nat) (K:Option Addr) (j kc:Nat) (L:List aA) (dv:List Value):Prop where
 bel:Below W0.heap.size W0 wr
 dbx:aF wr W0.heap.size dv
 box:aF wr b [.string PW,.string ⟨#[]⟩,.int .i64 0,.string ⟨#[]⟩,.slice K j kc]
 own:wr.ownsRow B1 70 5 (.slice K j kc) j ((L.map eO).flatMap aj.cells)
 len:L.length=j
 lo:W0.heap.size<b
 hi:b<B1
 sz:B1≤wr.heap.size
theorem Nc.step {W0 wr w':World}{b B1:Nat}{K:Option Addr}{j kc:Nat}{L:List aA}{dv:List Value}(h:Nc W0 wr b B1 K j kc L dv)(hb:Below wr.heap.size wr w'):Nc W0 w' b B1 K j kc L dv:=
 ⟨ah h.bel hb,h.dbx.below hb,h.box.below hb,aR h.own hb,h.len,h.lo,h.hi,Nat.le_trans h.sz hb.size⟩
theorem Nc.app {W0 wr w6:World}{b B1:Nat}{K K1:Option Addr}{j kc c1:Nat}{L:List aA}{dv:List Value}{x:aA}(h:Nc W0 wr b B1 K j kc L dv)(o:Obj)
  (hown:w6.ownsRow B1 70 5 (.slice K1 (j+1) c1) (j+1) ((L.map eO).flatMap aj.cells++(eO x).cells))(hg:(wr.alloc o).grownBy w6 (Value.slice K j kc).ownBlock):
  Nc W0 (w6.setCell ⟨b,4,none⟩ (.slice K1 (j+1) c1)) b B1 K1 (j+1) c1 (L++[x]) dv:=by
 have lo:=h.lo;have hi:=h.hi;have sz:=h.sz
 have hr:∀ g,(Value.slice K j kc).ownBlock=some g→B1≤g:=fun g hg'=>(h.own.lt g hg').1
 have q1:some b≠(Value.slice K j kc).ownBlock:=fun e=>by have:=hr b e.symm;omega
 have p1:some W0.heap.size≠(Value.slice K j kc).ownBlock:=fun e=>by have:=hr _ e.symm;omega
 have hset:w6.grownBy (w6.setCell ⟨b,4,none⟩ (.slice K1 (j+1) c1)) (some b):=aU (World.grownBy.refl w6 (some b)) (.inl rfl) _
 refine⟨aw ((h.bel.alloc h.bel.size o).grown hg (by have:=h.bel.size;simp;omega) (fun i hi'=>by have:=hr i hi';omega)) (by omega) _,((h.dbx.alloc o).grownR hg p1).far (by omega) _,((h.box.alloc o).grownR hg q1).set 4 (by simp) _,?_,by simp[h.len],lo,hi,?_⟩
 ·rw[List.map_append,List.flatMap_append]
  have:=oE (j:=4) hown hi (.slice K1 (j+1) c1)
  simpa using this
 ·have h1:=hg.size;have h2:=hset.size;simp at h1;omega
theorem Nc.tree {W0 wr:World}{b B1:Nat}{K:Option Addr}{j kc:Nat}{L:List aA}{dv:List Value}(h:Nc W0 wr b B1 K j kc L dv):ce wr 0 none (.mk PW ⟨#[]⟩ 0 ⟨#[]⟩ K kc (L.map eO)):=by
 refine .mk _ ?_ (by simp) (fun k hk=>?_)
 ·simp only[aj.ka,aj.kids,aj.kc,List.length_map]
  rw[h.len];exact cN h.own z0
 ·simp only[aj.kids] at hk
  obtain⟨g,_,rfl⟩:=List.mem_map.1 hk;exact BL _ _ _ _
theorem Nc.cells {W0 wr:World}{b B1:Nat}{K:Option Addr}{j kc:Nat}{L:List aA}{dv:List Value}(h:Nc W0 wr b B1 K j kc L dv):aF wr b (aj.mk PW ⟨#[]⟩ 0 ⟨#[]⟩ K kc (L.map eO)).cells:=by
 have:=h.box
 unfold aj.cells
 simp only[aj.op,aj.nm,aj.aop,aj.ver,aj.ka,aj.kids,aj.kc,List.length_map]
 rw[h.len];exact this
theorem PX {d:aq}{g:aA}(h:d.alts=[g]):pf d.pl=dK g:=by unfold pf aq.pl;simp only;rw[h]
theorem Nd {d:aq}(h:2≤d.alts.length):pf d.pl=.node eE (d.alts.map dK):=by
 unfold pf aq.pl;simp only
 match he:d.alts with
 | []=>rw[he] at h;simp at h
 | [g]=>rw[he] at h;simp at h
 | g::g2::r=>rfl
theorem Sf (L:List aA)(K:Option Addr)(kc:Nat):(aj.mk PW ⟨#[]⟩ 0 ⟨#[]⟩ K kc (L.map eO)).pl=.node eE (L.map dK):=by
 rw[oK _ _ _ _ _ _ _ (by decide),ik,List.map_map]
 congr 1
 try exact List.map_congr_left fun g _=>GN g
theorem JI (A:Option Addr)(c:Nat)(ds:List aq)(w:World)(hG:Gl w)(hd:eW w A ds)(hl:ds.length≤64)(ha:∀ d∈ds,d.alts.length≤64)(ht:∀ d∈ds,d.pl.told 2):
  Calls Tryz.prog 23 #[.slice A ds.length c] w (DC (cT 2 false (ds.map aq.pl)) (cT 2 true (ds.map aq.pl)) w):=by
 obtain⟨i0,hi,hz0,hz1,hz2⟩:=info_parts qV
 obtain⟨i1,hj,hy0,hy1,hy2⟩:=info_parts oL
 have HG:=ae hG;have HD:=ae hd;have HT:=ae ht;have HA:=ae ha
 clear hG hd ht ha
 go_enter Tryz.func23,Tryz.ntmps23
 go_wp2_with fail
 go_loopw [2,3,14] (fun s2 s3 s14 wr=>∃ (k n1 c1 n2 c2:Nat) (A1 A2:Option Addr) (ns bs:List BA),k≤ds.length∧n1≤k∧n2≤k∧s2=.slice A1 n1 c1∧s3=.slice A2 n2 c2∧s14=.int .i64 k∧Hid (ns.map bl=cT 2 false ((ds.take k).map aq.pl))∧Hid (bs.map bl=cT 2 true ((ds.take k).map aq.pl))∧Hid (Nb w wr ns A1 n1 c1 bs A2 n2 c2)) (fun _ _ i _=>ds.length-(intOf i).toNat)
 case atStart=>exact⟨0,0,0,0,0,none,none,[],[],z0,z0,z0,rfl,rfl,rfl,rfl,rfl,Nb.start w⟩
 case round=>
  obtain⟨k,n1,c1,n2,c2,A1,A2,ns,bs,hk,hn1,hn2,rfl,rfl,rfl,HN,HB,S0⟩:=hrel
  by_cases hlt:k<ds.length
  ·obtain⟨d,hdk⟩:∃ d,ds[k]?=some d:=⟨_,gG hlt⟩
   have hm:=gM hdk
   obtain⟨b,off,hA,he⟩:=(HD.out.row.below S0.out.bel).elem fI k d hdk
   have e0:=he 0 _ rfl
   have e1:=he 1 _ rfl
   simp only[Nat.add_zero] at e0
   have hix:=fun W=>aH (T:=22) (E:=33) (sz:=2) (c:=c) Tryz.underlying22 rfl Tryz.sizeOf33 hA hlt W
   have hto:=HT.out d hm
   have HTO:=ae hto
   have hal:=HA.out d hm
   have HT1:=ae (yD (bar:=false) hdk)
   have HT2:=ae (yD (bar:=true) hdk)
   have HRA:=ae ((HD.out.all d hm).below S0.out.bel)
   obtain⟨g,r,hgr⟩:∃ g r,d.alts=g::r:=by
    match hx:d.alts with
    | []=>exact absurd hx hto.ne
    | g::r=>exact⟨g,r,rfl⟩
   have hgt:g.told 2:=hto.each g (by show g∈d.alts;rw[hgr];simp)
   have HGR:=ae hgr
   obtain⟨al,hall⟩:∃ al,d.alts.length=al:=⟨_,rfl⟩
   obtain⟨db,hdb⟩:∃ db,d.bar=db:=⟨_,rfl⟩
   rw[hall] at e1 hal
   rw[hdb] at e0 HT1 HT2
   have hal1:1≤al:=by rw[←hall,hgr];simp
   have HAL:=ae hall
   clear hdk hA he hm hto hgr hall hdb
   obtain⟨wo,rfl⟩:∃ wo:World,wo=wr:=⟨_,rfl⟩
   obtain⟨W2,hW2⟩:∃ W2,wo.alloc (.cells #[.bool db,.slice d.aa al d.ac] 33)=W2:=⟨_,rfl⟩
   have B2:Hid (Below wo.heap.size wo W2):=by rw[←hW2];exact bR.alloc lr _
   have K2:Hid (aF W2 wo.heap.size [.bool db,.slice d.aa al d.ac]):=by show aF _ _ _;rw[←hW2];exact aF.new wo [.bool db,.slice d.aa al d.ac] _
   have k0:=K2.out.cell 0 _ rfl
   have k1:=K2.out.cell 1 _ rfl
   have HRA2:=ae (HRA.out.below B2.out)
   obtain⟨b2,off2,hA2,he2⟩:=HRA2.out.elem dw 0 g (by rw[HGR.out];rfl)
   have g0:=he2 0 _ rfl
   have g1:=he2 1 _ rfl
   have g2:=he2 2 _ rfl
   simp only[Nat.add_zero,Nat.zero_mul] at g0 g1 g2
   have hix2:∀ W,(Instr.indexAt 31 (.slice d.aa al d.ac) (.int .i64 0)).run Tryz.prog W=.ok (.pointer (some ⟨b2,off2,none⟩)) W:=fun W=>by
    have:=aH (T:=31) (E:=53) (sz:=3) (n:=al) (k:=0) (c:=d.ac) Tryz.underlying31 rfl Tryz.sizeOf53 hA2 (by omega) W
    simpa using this
   have hgo:=hgt.op0
   obtain⟨W3,hW3⟩:∃ W3,W2.alloc (.cells #[.string ⟨#[]⟩,.string g.nm,.int .i64 g.op,.string g.ver,.slice none 0 0] 70)=W3:=⟨_,rfl⟩
   have B3:Hid (Below W2.heap.size W2 W3):=by rw[←hW3];exact bR.alloc lr _
   have K3:Hid (aF W3 W2.heap.size [.string ⟨#[]⟩,.string g.nm,.int .i64 g.op,.string g.ver,.slice none 0 0]):=by show aF _ _ _;rw[←hW3];exact aF.new W2 [.string ⟨#[]⟩,.string g.nm,.int .i64 g.op,.string g.ver,.slice none 0 0] _
   have KD3:=ae (K2.out.below B3.out)
   have HGT:=ae hgt
   have hlo:wo.heap.size<W2.heap.size:=K2.out.sz
   have hm1:=KD3.out.cell 1 _ rfl
   have hs3:W3.heap.size=W2.heap.size+1:=by rw[←hW3];simp
   have HW2:=ae hW2;have HW3:=ae hW3
   clear hA2 he2 hgt hW2 hW3
   go_upto_region 4 with(fail)
   rw[HW2.out]
   go_upto_if 26 with(fail)
   rw[HW3.out]
   clear HW2 HW3 e0 e1 hix k0 k1 g0 g1 g2 hix2
   go_cut [7] (fun s wx=>s=.pointer (some ⟨W2.heap.size,0,none⟩)∧∃ T:aj,Hid (aF wx W2.heap.size T.cells)∧Hid (ce wx 0 none T)∧Hid (T.pl=pf d.pl)∧Hid (dH T)∧T.cnt≤64∧T.ht≤32∧Hid (Below wo.heap.size wo wx)∧Hid (aF wx wo.heap.size [.bool db,.slice d.aa al d.ac]))
   case first=>
    by_cases h1:1<al
    rotate_left
    ·have q1:decide ((1:Int)<(al:Int))=false:=dF (by omega)
     have q2:decide (1<al)=false:=dF h1
     have hr1:d.alts=[g]:=by
      have h2:=HAL.out;rw[HGR.out,List.length_cons] at h2
      have:g :: []=[g]:=rfl
      rw[HGR.out];congr 1;exact List.eq_nil_of_length_eq_zero (by omega)
     have HPL:Hid ((eO g).pl=pf d.pl):=by show _=_;rw[PX hr1,GN]
     have HBK:Hid (aF W3 W2.heap.size (eO g).cells):=by show aF _ _ _;rw[yB hgo];exact K3.out
     have hc1:(eO g).cnt≤64:=by rw[xS rfl];omega
     have hh1:(eO g).ht≤32:=by rw[vx.2 rfl];omega
     clear hr1
     go_wp2_with fail
     go_meet
     exact⟨rfl,eO g,HBK,BL _ _ _ _,HPL,BK HGT.out,hc1,hh1,ah B2.out B3.out,KD3⟩
    ·have q1:decide ((1:Int)<(al:Int))=true:=dT (by omega)
     have q2:decide (1<al)=true:=dT h1
     have x0:=K3.out.cell 0 _ rfl
     have x1:=K3.out.cell 1 _ rfl
     have x2:=K3.out.cell 2 _ rfl
     have x3:=K3.out.cell 3 _ rfl
     have x4:=K3.out.cell 4 _ rfl
     have y0:=K3.out.free 0 (by simp)
     have y1:=K3.out.free 1 (by simp)
     have y2:=K3.out.free 2 (by simp)
     have y3:=K3.out.free 3 (by simp)
     have y4:=K3.out.free 4 (by simp)
     have hne1:¬ wo.heap.size=W2.heap.size:=by omega
     have hne2:¬ W2.heap.size=wo.heap.size:=by omega
     obtain⟨W4,hW4⟩:∃ W4,((((W3.setCell ⟨W2.heap.size,0,none⟩ (.string ⟨#[111,114]⟩)).setCell ⟨W2.heap.size,1,none⟩ (.string ⟨#[]⟩)).setCell ⟨W2.heap.size,2,none⟩ (.int .i64 0)).setCell ⟨W2.heap.size,3,none⟩ (.string ⟨#[]⟩)).setCell ⟨W2.heap.size,4,none⟩ (.slice none 0 0)=W4:=⟨_,rfl⟩
     have K0:Hid (Nc wo W4 W2.heap.size (W2.heap.size+1) none 0 0 [] [.bool db,.slice d.aa al d.ac]):=by
      show Nc _ _ _ _ _ _ _ _ _
      rw[←hW4]
      refine⟨?_,?_,?_,World.ownsRow_nil _ _ _ _,rfl,hlo,Nat.lt_succ_self _,?_⟩
      ·repeat' refine aw ?_ (by omega) _
       exact ah B2.out B3.out
      ·exact((((KD3.out.far hne2 _).far hne2 _).far hne2 _).far hne2 _).far hne2 _
      ·exact((((K3.out.set 0 (by simp) _).set 1 (by simp) _).set 2 (by simp) _).set 3 (by simp) _).set 4 (by simp) _
      ·have:(((((W3.setCell ⟨W2.heap.size,0,none⟩ (.string ⟨#[111,114]⟩)).setCell ⟨W2.heap.size,1,none⟩ (.string ⟨#[]⟩)).setCell ⟨W2.heap.size,2,none⟩ (.int .i64 0)).setCell ⟨W2.heap.size,3,none⟩ (.string ⟨#[]⟩)).setCell ⟨W2.heap.size,4,none⟩ (.slice none 0 0)).heap.size=W3.heap.size:=by simp
       omega
     have HW4:=ae hW4
     have hm2:=K0.out.dbx.cell 1 _ rfl
     clear hW4
     go_upto_region 7 with(fail)
     rw[HW4.out]
     clear HW4 x0 x1 x2 x3 x4 y0 y1 y2 y3 y4 hm1
     go_wp2_with fail
     have H1:=ae h1
     rw[q1]
     clear hm2 q1 q2 h1
     go_loopw [31] (fun i wx=>∃ (j kc:Nat) (K:Option Addr),j≤al∧i=.int .i64 j∧Hid (Nc wo wx W2.heap.size (W2.heap.size+1) K j kc (d.alts.take j) [.bool db,.slice d.aa al d.ac])) (fun i _=>al-(intOf i).toNat)
     case atStart=>exact⟨0,0,none,z0,rfl,by simpa [Hid] using K0⟩
     case round=>
      clear K0
      obtain⟨j,kc,K,hj',rfl,KI⟩:=hrel
      by_cases hlt4:j<al
      ·obtain⟨a,ha⟩:∃ a,d.alts[j]?=some a:=⟨_,gG (by rw[HAL.out];exact hlt4)⟩
       obtain⟨b3,off3,hA3,he3⟩:=(HRA.out.below KI.out.bel).elem dw j a ha
       have e0:=he3 0 _ rfl
       have e1:=he3 1 _ rfl
       have e2:=he3 2 _ rfl
       simp only[Nat.add_zero] at e0
       have hix3:=fun W=>aH (T:=31) (E:=53) (sz:=3) (n:=al) (c:=d.ac) Tryz.underlying31 rfl Tryz.sizeOf53 hA3 hlt4 W
       have hao:0≤a.op:=(HTO.out.each a (gM ha)).op0
       have HAT:=ae (aS ha)
       have HLC:=ae (yB hao)
       clear ha hA3 he3 hao
       obtain⟨W5,hW5⟩:∃ W5,wr.alloc (.cells #[.string a.nm,.int .i64 a.op,.string a.ver] 53)=W5:=⟨_,rfl⟩
       have B5:Hid (Below wr.heap.size wr W5):=by rw[←hW5];exact bR.alloc lr _
       have K5:Hid (aF W5 wr.heap.size [.string a.nm,.int .i64 a.op,.string a.ver]):=by show aF _ _ _;rw[←hW5];exact aF.new wr [.string a.nm,.int .i64 a.op,.string a.ver] _
       have I5:=ae (KI.out.step B5.out)
       have q0:=K5.out.cell 0 _ rfl
       have q1':=K5.out.cell 1 _ rfl
       have q2':=K5.out.cell 2 _ rfl
       have m4:=I5.out.box.cell 4 _ rfl
       have HO5:=ae I5.out.own
       have hbz:=I5.out.sz
       have FB:Hid (some W2.heap.size≠(Value.slice K j kc).ownBlock):=by intro e;have:=(HO5.out.lt _ e.symm).1;omega
       have hne3:¬ W2.heap.size=wr.heap.size:=by have:=KI.out.sz;omega
       have hne4:¬ wr.heap.size=W2.heap.size:=by omega
       have HW5:=ae hW5
       clear hW5
       go_upto_region 10 with(fail)
       rw[HW5.out]
       go_wp2_with (
        at_builtin
        refine ak _ rfl _ _ _ rfl (W2.heap.size+1) 70 i1 _ 5 80 Tryz.underlying68 hj hy0 hy1 hy2 rfl (by omega) (.slice K j kc) j _ rfl (HO5.out.alloc _) (W5.heap.size+1) (some ⟨W5.heap.size,0,none⟩) 1 1 [.string ⟨#[]⟩,.string a.nm,.int .i64 a.op,.string a.ver,.slice none 0 0] rfl (JH W5 _ _ _ _ _ _) (by simp[Value.oneCell']) (by simp only[maxLen];omega) (by omega) (by simp;omega) ?_
        intro v1 w6 hown1 hg1 hat1
        obtain⟨K1,d1,rfl⟩:=aG hown1
        have KB:=ae ((I5.out.box.alloc (.cells #[.string ⟨#[]⟩,.string a.nm,.int .i64 a.op,.string a.ver,.slice none 0 0] 70)).grownR hg1 FB.out)
        have m4':=KB.out.cell 4 _ rfl
        have m4f:=KB.out.free 4 (by simp))
       have N1:=ae (I5.out.app _ (x:=a) (by rw[HLC.out];exact hown1) hg1)
       clear hown1 hg1 hat1
       go_wp2_with fail
       go_roundw
       case rel=>exact⟨j+1,d1,K1,by omega,by go_num,by rw[HAT.out];exact N1⟩
       case measure=>simp[intOf];omega
      ·obtain rfl:j=al:=by omega
       have ETK:Hid (d.alts.take j=d.alts):=by show _=_;rw[tL (by have:=HAL.out;omega)]
       rw[ETK.out] at KI
       have HPL:Hid ((aj.mk PW ⟨#[]⟩ 0 ⟨#[]⟩ K kc (d.alts.map eO)).pl=pf d.pl):=by show _=_;rw[Nd (by have:=HAL.out;have:=H1.out;omega),Sf]
       have HGD:Hid (dH (aj.mk PW ⟨#[]⟩ 0 ⟨#[]⟩ K kc (d.alts.map eO))):=Na (l:=d.alts) (fun g hg=>HTO.out.each g hg) (by have:=HAL.out;have:=H1.out;omega) K kc
       have hcn:(aj.mk PW ⟨#[]⟩ 0 ⟨#[]⟩ K kc (d.alts.map eO)).cnt≤64:=by
        rw[fM (by simp only[aj.kids];intro e;have:=congrArg List.length e;rw[List.length_map,HAL.out,List.length_nil] at this;omega)]
        simp only[aj.kids];rw[(yC d.alts).1,HAL.out];exact hal
       have hht:(aj.mk PW ⟨#[]⟩ 0 ⟨#[]⟩ K kc (d.alts.map eO)).ht≤32:=by
        rw[xR];simp only[aj.kids];have:=(yC d.alts).2;omega
       go_wp2_with fail
       go_meet
       exact⟨rfl,_,KI.out.cells,KI.out.tree,HPL,HGD,hcn,hht,KI.out.bel,KI.out.dbx⟩
   case rest=>
   obtain⟨rfl,T,KT,TO,TP,TG,hcn,hht,BW,KD⟩:=hcut
   have x0:=KT.out.cell 0 _ rfl
   have x1:=KT.out.cell 1 _ rfl
   have x2:=KT.out.cell 2 _ rfl
   have x3:=KT.out.cell 3 _ rfl
   have x4:=KT.out.cell 4 _ rfl
   have S1:=ae (S0.out.below BW.out)
   have HPR:=ae (JG TG.out hcn hht wc (HG.out.below S1.out.bel) TO.out)
   unfold aj.val at HPR
   clear hm1
   go_wp2_with fail
   refine HPR.out.mono ?_;rintro e w5 ⟨rfl,hb5⟩
   have S2:=ae (S1.out.below hb5)
   have KD2:=ae (KD.out.below hb5)
   clear hb5 x0 x1 x2 x3 x4 HPR
   obtain⟨ts,hts⟩:∃ ts,bz (bP T.pl)=ts:=⟨_,rfl⟩
   have HTS:Hid (bl ts=bP (pf d.pl)):=by show _=_;rw[←hts,cH,TP.out]
   rw[hts]
   clear hts
   have x0:=KD2.out.cell 0 _ rfl
   have hwz:=S2.out.bel.size
   cases db
   ·have HO:=ae S2.out.r1
    go_wp2_with (
     at_builtin
     refine ak _ rfl _ _ _ rfl w.heap.size 9 i0 _ 1 16 Tryz.underlying25 hi hz0 hz1 hz2 rfl (by omega) (.slice A1 n1 c1) n1 _ rfl (HO.out.alloc _) (w5.heap.size+1) (some ⟨w5.heap.size,0,none⟩) 1 1 [.string ts] rfl (Ar w5 ts) (by simp[Value.oneCell']) (by simp only[maxLen];omega) (by omega) (by simp;omega) ?_
     intro v1 w6 hown1 hg1 hat1
     obtain⟨O1,d1,rfl⟩:=aG hown1)
    have N1:=ae (S2.out.add1 (s:=ts) (o:=.cells #[.string ts] 9) hown1 hg1 hat1)
    clear hown1 hg1 hat1
    go_wp2_with fail
    go_roundw
    case rel=>exact⟨k+1,n1+1,d1,n2,c2,O1,A2,ns++[ts],bs,by omega,by omega,by omega,rfl,rfl,by go_num,by show _=_;rw[HT1.out,List.map_append,HN.out,if_pos trivial,List.map_singleton,HTS.out],by show _=_;rw[HT2.out,HB.out,if_neg (by simp),List.append_nil],N1⟩
    case measure=>simp[intOf];omega
   ·have HO:=ae S2.out.r2
    go_wp2_with (
     at_builtin
     refine ak _ rfl _ _ _ rfl w.heap.size 9 i0 _ 1 16 Tryz.underlying25 hi hz0 hz1 hz2 rfl (by omega) (.slice A2 n2 c2) n2 _ rfl (HO.out.alloc _) (w5.heap.size+1) (some ⟨w5.heap.size,0,none⟩) 1 1 [.string ts] rfl (Ar w5 ts) (by simp[Value.oneCell']) (by simp only[maxLen];omega) (by omega) (by simp;omega) ?_
     intro v1 w6 hown1 hg1 hat1
     obtain⟨O1,d1,rfl⟩:=aG hown1)
    have N1:=ae (S2.out.add2 (s:=ts) (o:=.cells #[.string ts] 9) hown1 hg1 hat1)
    clear hown1 hg1 hat1
    go_wp2_with fail
    go_roundw
    case rel=>exact⟨k+1,n1,c1,n2+1,d1,A1,O1,ns,bs++[ts],by omega,by omega,by omega,rfl,rfl,by go_num,by show _=_;rw[HT1.out,HN.out,if_neg (by simp),List.append_nil],by show _=_;rw[HT2.out,List.map_append,HB.out,if_pos trivial,List.map_singleton,HTS.out],N1⟩
    case measure=>simp[intOf];omega
  ·have EN:Hid (ns.map bl=cT 2 false (ds.map aq.pl)):=by show _=_;rw[HN.out,tL (by omega)]
   have EB:Hid (bs.map bl=cT 2 true (ds.map aq.pl)):=by show _=_;rw[HB.out,tL (by omega)]
   go_wp2_with fail
   go_ret3
   exact⟨A1,c1,A2,c2,ns,bs,by rw[S0.out.l1,S0.out.l2];rfl,S0.out.bel,by rw[S0.out.l1];exact bA S0.out.r1,by rw[S0.out.l2];exact bA S0.out.r2,EN.out,EB.out⟩
def Hv (g:aA):cA:=⟨g.nm,g.op.toNat,g.ver,⟨#[]⟩,none,0,[]⟩
theorem Uf (g:aA):(Hv g).pl=ng g:=by unfold Hv ng cA.pl;simp[bl]
theorem PY {g:aA}(h:0≤g.op):(Hv g).cells=[.string g.nm,.int .i64 g.op,.string g.ver,.string ⟨#[]⟩,.slice none 0 0]:=by
 unfold Hv cA.cells;simp only[List.length_nil];rw[Int.toNat_of_nonneg h]
theorem Ug (w:World)(lo:Nat)(g:aA):(Hv g).own w lo:=World.ownsRow_nil _ _ _ _
theorem PZ {t:cL}(h:t.bare):t.good:=by
 refine⟨?_,h.op,h.none,by rw[h.archs];simp⟩
 unfold cL.right
 rw[h.name,h.qual,h.archs]
 by_cases h0:t.op=0
 ·simp[h0]
 ·simp[h0,(h.ver h0).1]
def sj (bar:Bool)(l:List ba):List (List cL):=(dM bar l).map fun d=>d.alts.map ng
theorem P8 {bar:Bool}{l:List ba}(h:∀ d∈l,d.told 1)(hc:bH l≤64):oH (sj bar l):=by
 refine⟨fun g hg=>?_,fun g hg t ht=>?_,?_⟩
 ·obtain⟨d,hd,rfl⟩:=List.mem_map.1 hg
  simpa using(h d (gq hd).1).ne
 ·obtain⟨d,hd,rfl⟩:=List.mem_map.1 hg
  obtain⟨a,ha,rfl⟩:=List.mem_map.1 ht
  exact PZ (Bh ((h d (gq hd).1).each a ha))
 ·have:=mH bar l
  have e:(sj bar l).map List.length=(dM bar l).map fun d=>d.alts.length:=by
   unfold sj;rw[List.map_map];exact List.map_congr_left fun d _=>by simp
  rw[e];unfold bH at *;omega
theorem BN (bar:Bool)(l:List ba):cT 1 bar l=if sj bar l=[] then [] else [eY (sj bar l)]:=by
 unfold cT sj;rw[if_pos rfl];simp
theorem GO {bar:Bool}{l:List aq}{k:Nat}{d:aq}(h:l[k]?=some d):sj bar ((l.take (k+1)).map aq.pl)=sj bar ((l.take k).map aq.pl)++(if d.bar=bar then [d.alts.map ng] else []):=by
 unfold sj
 rw[aS h,List.map_append]
 unfold dM
 rw[List.filter_append,List.map_append]
 congr 1
 by_cases hb:d.bar=bar
 ·rw[if_pos hb];simp[aq.pl,hb]
 ·rw[if_neg hb];simp[aq.pl,hb]
structure GP (w wr:World) (gs:List aW) (A1:Option Addr) (n1 c1:Nat) (bs:List aW) (A2:Option Addr) (n2 c2:Nat):Prop where
 r1:wr.ownsRow w.heap.size 79 1 (.slice A1 n1 c1) n1 (gs.map aW.sl)
 r2:wr.ownsRow w.heap.size 79 1 (.slice A2 n2 c2) n2 (bs.map aW.sl)
 ne:∀ g,(Value.slice A1 n1 c1).ownBlock=some g→(Value.slice A2 n2 c2).ownBlock≠some g
 g1:∀ g∈gs,g.own wr w.heap.size
 g2:∀ g∈bs,g.own wr w.heap.size
 l1:gs.length=n1
 l2:bs.length=n2
 bel:Below w.heap.size w wr
theorem GP.start (w:World):GP w w [] none 0 0 [] none 0 0:=⟨World.ownsRow_nil _ _ _ _,World.ownsRow_nil _ _ _ _,by simp[Value.ownBlock],by simp,by simp,rfl,rfl,bR⟩
theorem GP.below {w wr w':World}{gs bs:List aW}{A1 A2:Option Addr}{n1 c1 n2 c2:Nat}(h:GP w wr gs A1 n1 c1 bs A2 n2 c2)(hb:Below wr.heap.size wr w'):GP w w' gs A1 n1 c1 bs A2 n2 c2:=
 ⟨aR h.r1 hb,aR h.r2 hb,h.ne,fun g hg=>(h.g1 g hg).below hb,fun g hg=>(h.g2 g hg).below hb,h.l1,h.l2,ah h.bel hb⟩
theorem GP.ok1 {w wr:World}{gs bs:List aW}{A1 A2:Option Addr}{n1 c1 n2 c2:Nat}(h:GP w wr gs A1 n1 c1 bs A2 n2 c2):eX wr w.heap.size A1 n1 c1 gs:=⟨h.l1,h.r1,h.g1⟩
theorem GP.ok2 {w wr:World}{gs bs:List aW}{A1 A2:Option Addr}{n1 c1 n2 c2:Nat}(h:GP w wr gs A1 n1 c1 bs A2 n2 c2):eX wr w.heap.size A2 n2 c2 bs:=⟨h.l2,h.r2,h.g2⟩
theorem GP.add1 {w wr w2:World}{gs bs:List aW}{A1 A2 B1:Option Addr}{n1 c1 n2 c2 d1:Nat}{s:aW}{o:Obj}(h:GP w wr gs A1 n1 c1 bs A2 n2 c2)(hs:s.own wr w.heap.size)
  (hr:w2.ownsRow w.heap.size 79 1 (.slice B1 (n1+1) d1) (n1+1) (gs.map aW.sl++[s.sl]))(hg:(wr.alloc o).grownBy w2 (Value.slice A1 n1 c1).ownBlock)
  (ha:(Value.slice B1 (n1+1) d1).ownBlock=(Value.slice A1 n1 c1).ownBlock∨(Value.slice B1 (n1+1) d1).ownBlock=some (wr.alloc o).heap.size):GP w w2 (gs++[s]) B1 (n1+1) d1 bs A2 n2 c2:=by
 have hb:=(Below.refl wr.heap.size wr).alloc lr o
 have ho:=h.below hb
 have hs':=hs.below hb
 refine⟨by rw[List.map_append];exact hr,ho.r2.kept hg ?_,fun g hg1=>?_,fun t ht=>?_,fun t ht=>(ho.g2 t ht).other ho.r1 hg,by simp[h.l1],h.l2,ho.bel.grown hg ho.bel.size (fun j hj=>(ho.r1.lt j hj).1)⟩
 ·cases hq:(Value.slice A2 n2 c2).ownBlock with
  | none=>exact .inl rfl
  | some g=>right;intro e;exact h.ne g e.symm hq
 ·rcases ha with ha | ha
  ·rw[ha] at hg1;exact h.ne g hg1
  ·rw[ha] at hg1;injection hg1 with hg1
   intro e;have:=(ho.r2.lt g e).2;omega
 ·rcases List.mem_append.1 ht with ht | ht
  ·exact(ho.g1 t ht).other ho.r1 hg
  ·obtain rfl:=List.mem_singleton.1 ht;exact hs'.other ho.r1 hg
theorem GP.add2 {w wr w2:World}{gs bs:List aW}{A1 A2 B2:Option Addr}{n1 c1 n2 c2 d2:Nat}{s:aW}{o:Obj}(h:GP w wr gs A1 n1 c1 bs A2 n2 c2)(hs:s.own wr w.heap.size)
  (hr:w2.ownsRow w.heap.size 79 1 (.slice B2 (n2+1) d2) (n2+1) (bs.map aW.sl++[s.sl]))(hg:(wr.alloc o).grownBy w2 (Value.slice A2 n2 c2).ownBlock)
  (ha:(Value.slice B2 (n2+1) d2).ownBlock=(Value.slice A2 n2 c2).ownBlock∨(Value.slice B2 (n2+1) d2).ownBlock=some (wr.alloc o).heap.size):GP w w2 gs A1 n1 c1 (bs++[s]) B2 (n2+1) d2:=by
 have hb:=(Below.refl wr.heap.size wr).alloc lr o
 have ho:=h.below hb
 have hs':=hs.below hb
 refine⟨ho.r1.kept hg ?_,by rw[List.map_append];exact hr,fun g hg1=>?_,fun t ht=>(ho.g1 t ht).other ho.r2 hg,fun t ht=>?_,h.l1,by simp[h.l2],ho.bel.grown hg ho.bel.size (fun j hj=>(ho.r2.lt j hj).1)⟩
 ·cases hq:(Value.slice A1 n1 c1).ownBlock with
  | none=>exact .inl rfl
  | some g=>right;intro e;exact h.ne g hq e.symm
 ·rcases ha with ha | ha
  ·rw[ha];exact h.ne g hg1
  ·rw[ha];intro e;injection e with e;have:=(ho.r1.lt g hg1).2;omega
 ·rcases List.mem_append.1 ht with ht | ht
  ·exact(ho.g2 t ht).other ho.r2 hg
  ·obtain rfl:=List.mem_singleton.1 ht;exact hs'.other ho.r2 hg
structure N5 (W0 wr:World) (dv:List Value) (G:Option Addr) (j gc:Nat) (L:List aA):Prop where
 bel:Below W0.heap.size W0 wr
 dbx:aF wr W0.heap.size dv
 own:wr.ownsRow (W0.heap.size+1) 81 5 (.slice G j gc) j ((L.map Hv).flatMap cA.cells)
 len:L.length=j
 sz:W0.heap.size+1≤wr.heap.size
theorem N5.step {W0 wr w':World}{dv:List Value}{G:Option Addr}{j gc:Nat}{L:List aA}(h:N5 W0 wr dv G j gc L)(hb:Below wr.heap.size wr w'):N5 W0 w' dv G j gc L:=
 ⟨ah h.bel hb,h.dbx.below hb,aR h.own hb,h.len,Nat.le_trans h.sz hb.size⟩
theorem N5.app {W0 wr w6:World}{dv:List Value}{G G1:Option Addr}{j gc c1:Nat}{L:List aA}{x:aA}(h:N5 W0 wr dv G j gc L)(o:Obj)
  (hown:w6.ownsRow (W0.heap.size+1) 81 5 (.slice G1 (j+1) c1) (j+1) ((L.map Hv).flatMap cA.cells++(Hv x).cells))(hg:(wr.alloc o).grownBy w6 (Value.slice G j gc).ownBlock):
  N5 W0 w6 dv G1 (j+1) c1 (L++[x]):=by
 have sz:=h.sz
 have hr:∀ g,(Value.slice G j gc).ownBlock=some g→W0.heap.size+1≤g:=fun g hg'=>(h.own.lt g hg').1
 have q1:some W0.heap.size≠(Value.slice G j gc).ownBlock:=fun e=>by have:=hr _ e.symm;omega
 refine⟨(h.bel.alloc h.bel.size o).grown hg (by have:=h.bel.size;simp;omega) (fun i hi'=>by have:=hr i hi';omega),(h.dbx.alloc o).grownR hg q1,?_,by simp[h.len],?_⟩
 ·rw[List.map_append,List.flatMap_append];simpa using hown
 ·have h1:=hg.size;simp at h1;omega
theorem N5.grp {W0 wr:World}{dv:List Value}{G:Option Addr}{j gc:Nat}{L:List aA}(h:N5 W0 wr dv G j gc L):(⟨G,gc,L.map Hv⟩:aW).own wr (W0.heap.size+1):=by
 refine⟨?_,fun t ht=>?_⟩
 ·unfold aW.sl;simp only[List.length_map];rw[h.len];exact h.own
 ·obtain⟨g,_,rfl⟩:=List.mem_map.1 ht;exact Ug _ _ _
theorem N5.sl {W0 wr:World}{dv:List Value}{G:Option Addr}{j gc:Nat}{L:List aA}(h:N5 W0 wr dv G j gc L):(⟨G,gc,L.map Hv⟩:aW).sl=.slice G j gc:=by
 unfold aW.sl;simp only[List.length_map];rw[h.len]
theorem P9 (G:Option Addr)(gc:Nat)(L:List aA):(⟨G,gc,L.map Hv⟩:aW).pl=L.map ng:=by
 unfold aW.pl;simp only;rw[List.map_map];exact List.map_congr_left fun g _=>Uf g
def Uh (N:List (LU))(w:World)(e:Ending)(w':World):Prop:=
 ∃ (A1:Option Addr) (c1:Nat) (ns:List BA),e=.returned (.tuple #[.slice A1 ns.length c1,.int .i64 0])∧Below w.heap.size w w'∧Rd w' 1 A1 ns.length (strCells ns)∧ns.map bl=N
theorem yE (A:Option Addr)(c lo:Nat)(gs:List aW)(w:World)(hG:Gl w)(hW:xM gs)(hd:eX w lo A gs.length c gs):
  Calls Tryz.prog 38 #[.slice A gs.length c] w (Uh (if gs.map aW.pl=[] then [] else [eY (gs.map aW.pl)]) w):=by
 have HPR:=ae (Jd A c gs hW w hG hd.ok hd.cap)
 clear hG hW hd
 by_cases h0:gs.length=0
 ·have q:((gs.length:Int)==0)=true:=by rw[h0];rfl
  have E:Hid ((if gs.map aW.pl=[] then [] else [eY (gs.map aW.pl)])=([]:List (LU))):=by
   show _=_;rw[if_pos (by rw[List.length_eq_zero_iff.1 h0];rfl)]
  rw[E.out]
  clear h0 HPR
  go_enter Tryz.func38,Tryz.ntmps38
  go_wp2_with fail
  go_ret2
  exact⟨none,0,[],rfl,bR,Rd.nil _ _ _,rfl⟩
 have q:((gs.length:Int)==0)=false:=beq_eq_false_iff_ne.2 (by omega)
 have E:Hid ((if gs.map aW.pl=[] then [] else [eY (gs.map aW.pl)])=[eY (gs.map aW.pl)]):=by
  show _=_;rw[if_neg];intro e;apply h0;have:=congrArg List.length e;simpa using this
 rw[E.out]
 clear h0
 go_enter Tryz.func38,Tryz.ntmps38
 go_wp2_with fail
 refine HPR.out.mono ?_;rintro e w5 ⟨rfl,hb5⟩
 have B5:=ae hb5
 clear hb5 HPR q
 obtain⟨ts,hts⟩:∃ ts,bz (eY (gs.map aW.pl))=ts:=⟨_,rfl⟩
 have HTS:Hid (bl ts=eY (gs.map aW.pl)):=by show _=_;rw[←hts,cH]
 rw[hts]
 clear hts
 have RT:=ae (GI w5 ts)
 have B6:=ae (ah B5.out (bR.alloc lr (.cells #[.string ts] 9)))
 go_wp2_with fail
 go_ret2
 exact⟨some ⟨w5.heap.size,0,none⟩,1,[ts],rfl,B6.out,RT.out,by rw[List.map_singleton,HTS.out]⟩
theorem GQ (A:Option Addr)(c:Nat)(ds:List aq)(w:World)(hG:Gl w)(hd:eW w A ds)(hl:ds.length≤64)(ha:∀ d∈ds,d.alts.length≤64)(ht:∀ d∈ds,d.pl.told 1)(hc:bH (ds.map aq.pl)≤64):
  Calls Tryz.prog 22 #[.slice A ds.length c] w (DC (cT 1 false (ds.map aq.pl)) (cT 1 true (ds.map aq.pl)) w):=by
 obtain⟨i0,hi,hz0,hz1,hz2⟩:=info_parts FN
 obtain⟨i1,hj,hy0,hy1,hy2⟩:=info_parts Bk
 have HGD:Hid (∀ bar,oH (sj bar (ds.map aq.pl))):=by
  intro bar
  refine P8 (fun d hd=>?_) hc
  obtain⟨x,hx,rfl⟩:=List.mem_map.1 hd;exact ht x hx
 have HG:=ae hG;have HD:=ae hd;have HT:=ae ht;have HA:=ae ha
 clear hG hd ht ha hc
 go_enter Tryz.func22,Tryz.ntmps22
 go_wp2_with fail
 go_loopw [5,6,15] (fun s5 s6 s15 wr=>∃ (k n1 c1 n2 c2:Nat) (A1 A2:Option Addr) (ns bs:List aW),k≤ds.length∧n1≤k∧n2≤k∧s5=.slice A1 n1 c1∧s6=.slice A2 n2 c2∧s15=.int .i64 k∧Hid (ns.map aW.pl=sj false ((ds.take k).map aq.pl))∧Hid (bs.map aW.pl=sj true ((ds.take k).map aq.pl))∧Hid (GP w wr ns A1 n1 c1 bs A2 n2 c2)) (fun _ _ i _=>ds.length-(intOf i).toNat)
 case atStart=>exact⟨0,0,0,0,0,none,none,[],[],z0,z0,z0,rfl,rfl,rfl,rfl,rfl,GP.start w⟩
 case round=>
  obtain⟨k,n1,c1,n2,c2,A1,A2,ns,bs,hk,hn1,hn2,rfl,rfl,rfl,HN,HB,S0⟩:=hrel
  by_cases hlt:k<ds.length
  ·obtain⟨d,hdk⟩:∃ d,ds[k]?=some d:=⟨_,gG hlt⟩
   have hm:=gM hdk
   obtain⟨b,off,hA,he⟩:=(HD.out.row.below S0.out.bel).elem fI k d hdk
   have e0:=he 0 _ rfl
   have e1:=he 1 _ rfl
   simp only[Nat.add_zero] at e0
   have hix:=fun W=>aH (T:=22) (E:=33) (sz:=2) (c:=c) Tryz.underlying22 rfl Tryz.sizeOf33 hA hlt W
   have HTO:=ae (HT.out d hm)
   have hal:=HA.out d hm
   have HT1:=ae (GO (bar:=false) hdk)
   have HT2:=ae (GO (bar:=true) hdk)
   have HRA:=ae ((HD.out.all d hm).below S0.out.bel)
   obtain⟨al,hall⟩:∃ al,d.alts.length=al:=⟨_,rfl⟩
   obtain⟨db,hdb⟩:∃ db,d.bar=db:=⟨_,rfl⟩
   rw[hall] at e1 hal
   rw[hdb] at e0 HT1 HT2
   have HAL:=ae hall
   clear hdk hA he hm hall hdb
   obtain⟨wo,rfl⟩:∃ wo:World,wo=wr:=⟨_,rfl⟩
   obtain⟨W2,hW2⟩:∃ W2,wo.alloc (.cells #[.bool db,.slice d.aa al d.ac] 33)=W2:=⟨_,rfl⟩
   have B2:Hid (Below wo.heap.size wo W2):=by rw[←hW2];exact bR.alloc lr _
   have K2:Hid (aF W2 wo.heap.size [.bool db,.slice d.aa al d.ac]):=by show aF _ _ _;rw[←hW2];exact aF.new wo [.bool db,.slice d.aa al d.ac] _
   have k1:=K2.out.cell 1 _ rfl
   have T0:Hid (N5 wo W2 [.bool db,.slice d.aa al d.ac] none 0 0 []):=⟨B2.out,K2.out,World.ownsRow_nil _ _ _ _,rfl,by have:=K2.out.sz;omega⟩
   have HW2:=ae hW2
   clear hW2
   go_upto_region 5 with(fail)
   rw[HW2.out]
   clear HW2 e0 e1 hix
   go_wp2_with fail
   clear k1
   go_loopw [9,22] (fun s9 i wx=>∃ (j gc:Nat) (G:Option Addr),j≤al∧s9=.slice G j gc∧i=.int .i64 j∧Hid (N5 wo wx [.bool db,.slice d.aa al d.ac] G j gc (d.alts.take j))) (fun _ i _=>al-(intOf i).toNat)
   case atStart=>exact⟨0,0,none,z0,rfl,rfl,by simpa [Hid] using T0⟩
   case round=>
    clear T0
    obtain⟨j,gc,G,hj',rfl,rfl,KI⟩:=hrel
    by_cases hlt4:j<al
    ·obtain⟨a,ha⟩:∃ a,d.alts[j]?=some a:=⟨_,gG (by rw[HAL.out];exact hlt4)⟩
     obtain⟨b3,off3,hA3,he3⟩:=(HRA.out.below KI.out.bel).elem dw j a ha
     have e0:=he3 0 _ rfl
     have e1:=he3 1 _ rfl
     have e2:=he3 2 _ rfl
     simp only[Nat.add_zero] at e0
     have hix3:=fun W=>aH (T:=31) (E:=53) (sz:=3) (n:=al) (c:=d.ac) Tryz.underlying31 rfl Tryz.sizeOf53 hA3 hlt4 W
     have hao:0≤a.op:=(HTO.out.each a (gM ha)).op0
     have HAT:=ae (aS ha)
     have HLC:=ae (PY hao)
     clear ha hA3 he3 hao
     obtain⟨W5,hW5⟩:∃ W5,wr.alloc (.cells #[.string a.nm,.int .i64 a.op,.string a.ver] 53)=W5:=⟨_,rfl⟩
     have B5:Hid (Below wr.heap.size wr W5):=by rw[←hW5];exact bR.alloc lr _
     have K5:Hid (aF W5 wr.heap.size [.string a.nm,.int .i64 a.op,.string a.ver]):=by show aF _ _ _;rw[←hW5];exact aF.new wr [.string a.nm,.int .i64 a.op,.string a.ver] _
     have I5:=ae (KI.out.step B5.out)
     have q0:=K5.out.cell 0 _ rfl
     have q1':=K5.out.cell 1 _ rfl
     have q2':=K5.out.cell 2 _ rfl
     have HO5:=ae I5.out.own
     have hbz:=I5.out.sz
     have HW5:=ae hW5
     clear hW5
     go_upto_region 9 with(fail)
     rw[HW5.out]
     clear HW5 e0 e1 e2 hix3
     go_wp2_with (
      at_builtin
      refine ak _ rfl _ _ _ rfl (wo.heap.size+1) 81 i1 _ 5 80 Tryz.underlying79 hj hy0 hy1 hy2 rfl (by omega) (.slice G j gc) j _ rfl (HO5.out.alloc _) (W5.heap.size+1) (some ⟨W5.heap.size,0,none⟩) 1 1 [.string a.nm,.int .i64 a.op,.string a.ver,.string ⟨#[]⟩,.slice none 0 0] rfl (qx W5 _ _ _ _ _ _) (by simp[Value.oneCell']) (by simp only[maxLen];omega) (by omega) (by simp;omega) ?_
      intro v1 w6 hown1 hg1 hat1
      obtain⟨G1,d1,rfl⟩:=aG hown1)
     have N1:=ae (I5.out.app _ (x:=a) (by rw[HLC.out];exact hown1) hg1)
     clear hown1 hg1 hat1
     go_wp2_with fail
     go_roundw
     case rel=>exact⟨j+1,d1,G1,by omega,rfl,by go_num,by rw[HAT.out];exact N1⟩
     case measure=>simp[intOf];omega
    ·obtain rfl:j=al:=by omega
     have ETK:Hid (d.alts.take j=d.alts):=by show _=_;rw[tL (by have:=HAL.out;omega)]
     rw[ETK.out] at KI
     have S2:=ae (S0.out.below KI.out.bel)
     have HGP:=ae (KI.out.grp)
     have HSL:=ae (KI.out.sl)
     have HGB:Hid ((⟨G,gc,d.alts.map Hv⟩:aW).own wr w.heap.size):=HGP.out.base (by have:=S0.out.bel.size;omega)
     have x0:=KI.out.dbx.cell 0 _ rfl
     have hwz:=S2.out.bel.size
     cases db
     ·have HO:=ae S2.out.r1
      go_wp2_with (
       at_builtin
       refine ak _ rfl _ _ _ rfl w.heap.size 79 i0 _ 1 24 Tryz.underlying67 hi hz0 hz1 hz2 rfl (by omega) (.slice A1 n1 c1) n1 _ rfl (HO.out.alloc _) (wr.heap.size+1) (some ⟨wr.heap.size,0,none⟩) 1 1 [.slice G j gc] rfl (fQ wr _ _) (by simp[Value.oneCell']) (by simp only[maxLen];omega) (by omega) (by simp;omega) ?_
       intro v1 w6 hown1 hg1 hat1
       obtain⟨O1,d1,rfl⟩:=aG hown1)
      have N1:=ae (S2.out.add1 (s:=⟨G,gc,d.alts.map Hv⟩) (o:=.cells #[.slice G j gc] 79) HGB.out (by rw[HSL.out];exact hown1) hg1 hat1)
      clear hown1 hg1 hat1
      go_wp2_with fail
      go_roundw
      case rel=>exact⟨k+1,n1+1,d1,n2,c2,O1,A2,ns++[⟨G,gc,d.alts.map Hv⟩],bs,by omega,by omega,by omega,rfl,rfl,by go_num,by show _=_;rw[HT1.out,List.map_append,HN.out,if_pos rfl,List.map_singleton,P9],by show _=_;rw[HT2.out,HB.out,if_neg (by simp),List.append_nil],N1⟩
      case measure=>simp[intOf];omega
     ·have HO:=ae S2.out.r2
      go_wp2_with (
       at_builtin
       refine ak _ rfl _ _ _ rfl w.heap.size 79 i0 _ 1 24 Tryz.underlying67 hi hz0 hz1 hz2 rfl (by omega) (.slice A2 n2 c2) n2 _ rfl (HO.out.alloc _) (wr.heap.size+1) (some ⟨wr.heap.size,0,none⟩) 1 1 [.slice G j gc] rfl (fQ wr _ _) (by simp[Value.oneCell']) (by simp only[maxLen];omega) (by omega) (by simp;omega) ?_
       intro v1 w6 hown1 hg1 hat1
       obtain⟨O1,d1,rfl⟩:=aG hown1)
      have N1:=ae (S2.out.add2 (s:=⟨G,gc,d.alts.map Hv⟩) (o:=.cells #[.slice G j gc] 79) HGB.out (by rw[HSL.out];exact hown1) hg1 hat1)
      clear hown1 hg1 hat1
      go_wp2_with fail
      go_roundw
      case rel=>exact⟨k+1,n1,c1,n2+1,d1,A1,O1,ns,bs++[⟨G,gc,d.alts.map Hv⟩],by omega,by omega,by omega,rfl,rfl,by go_num,by show _=_;rw[HT1.out,HN.out,if_neg (by simp),List.append_nil],by show _=_;rw[HT2.out,List.map_append,HB.out,if_pos rfl,List.map_singleton,P9],N1⟩
      case measure=>simp[intOf];omega
  ·have EN:Hid (ns.map aW.pl=sj false (ds.map aq.pl)):=by show _=_;rw[HN.out,tL (by omega)]
   have EB:Hid (bs.map aW.pl=sj true (ds.map aq.pl)):=by show _=_;rw[HB.out,tL (by omega)]
   have P1:=ae (fun (wx:World) (hb:Below wr.heap.size wr wx)=>yE A1 c1 w.heap.size ns wx (HG.out.below (ah S0.out.bel hb)) (xM.of (by rw[EN.out];exact HGD.out false)) (by rw[S0.out.l1];exact(S0.out.below hb).ok1))
   have P2:=ae (fun (wx:World) (hb:Below wr.heap.size wr wx)=>yE A2 c2 w.heap.size bs wx (HG.out.below (ah S0.out.bel hb)) (xM.of (by rw[EB.out];exact HGD.out true)) (by rw[S0.out.l2];exact(S0.out.below hb).ok2))
   rw[EN.out,S0.out.l1,←BN] at P1
   rw[EB.out,S0.out.l2,←BN] at P2
   go_wp2_with fail
   refine(P1.out wr bR).mono ?_;rintro e w5 ⟨B1,d1,xs,rfl,hb5,hr5,he5⟩
   have HB5:=ae hb5;have HR5:=ae hr5;have HE5:=ae he5
   obtain⟨xn,hxn⟩:∃ xn,xs.length=xn:=⟨_,rfl⟩
   rw[hxn]
   have HXN:=ae hxn
   clear hb5 hr5 he5 hxn
   go_wp2_with fail
   refine(P2.out w5 HB5.out).mono ?_;rintro e w6 ⟨B2,d2,ys,rfl,hb6,hr6,he6⟩
   have HB6:=ae hb6;have HR6:=ae hr6;have HE6:=ae he6
   obtain⟨yn,hyn⟩:∃ yn,ys.length=yn:=⟨_,rfl⟩
   rw[hyn]
   have HYN:=ae hyn
   clear hb6 hr6 he6 hyn
   go_wp2_with fail
   go_ret3
   exact⟨B1,d1,B2,d2,xs,ys,by rw[HXN.out,HYN.out];rfl,ah (ah S0.out.bel HB5.out) HB6.out,HR5.out.below HB6.out,HR6.out,HE5.out,HE6.out⟩
def zP:ba:=⟨false,[]⟩
def zZ (fmt:Int)(l:List ba)(k:Nat):List ba:=(l.take k).map (eV 1 fmt)++List.replicate (l.length-k) zP
def DE (fmt:Int)(l:List ba)(k:Nat)(d:ba)(j:Nat):List ba:=(l.take k).map (eV 1 fmt)++⟨d.bar,(d.alts.take j).map fun g=>(bc 1 fmt g).1⟩::List.replicate (l.length-(k+1)) zP
theorem Qd (fmt:Int)(l:List ba):zZ fmt l 0=(List.replicate l.length yF).map aq.pl:=by
 unfold zZ;simp[yF,aq.pl,zP]
theorem Sg (fmt:Int)(l:List ba):zZ fmt l l.length=l.map (eV 1 fmt):=by unfold zZ;simp
theorem Qe {fmt:Int}{l:List ba}{k:Nat}{d:ba}(h:l[k]?=some d):DE fmt l k d d.alts.length=zZ fmt l (k+1):=by
 unfold DE zZ
 rw[aS h,List.map_append,List.take_length]
 simp[eV]
theorem Qf {L:List aq}{a b:List ba}{y:ba}{k:Nat}(h:L.map aq.pl=a++y::b)(hk:a.length=k):∃ x,L[k]?=some x∧x.pl=y:=by
 have:(L.map aq.pl)[k]?=some y:=by rw[h,List.getElem?_append_right (by omega)];simp[hk]
 rw[List.getElem?_map] at this
 cases hx:L[k]? with
 | none=>rw[hx] at this;cases this
 | some x=>rw[hx] at this;injection this with this;exact⟨x,rfl,this⟩
theorem map_set {L:List aq}{a b:List ba}{y:ba}{k:Nat}(h:L.map aq.pl=a++y::b)(hk:a.length=k)(x:aq):(L.set k x).map aq.pl=a++x.pl::b:=by
 rw[List.map_set,h,List.set_append_right _ _ (by omega)];simp[hk]
theorem Sh {fmt:Int}{l:List ba}{L:List aq}{k:Nat}(hk:k<l.length)(h:L.map aq.pl=zZ fmt l k)(d:ba):
  ∃ x:aq,L[k]?=some x∧x.bar=false∧x.alts=[]∧(L.set k { x with bar:=d.bar }).map aq.pl=DE fmt l k d 0:=by
 have e:List.replicate (l.length-k) zP=zP::List.replicate (l.length-(k+1)) zP:=by
  rw[show l.length-k=(l.length-(k+1))+1 by omega,List.replicate_succ]
 unfold zZ at h
 rw[e] at h
 have hl:((l.take k).map (eV 1 fmt)).length=k:=by simp;omega
 obtain⟨x,hx,hp⟩:=Qf h hl
 have h1:x.bar=false:=congrArg ba.bar hp
 have h2:x.alts=[]:=congrArg ba.alts hp
 refine⟨x,hx,h1,h2,?_⟩
 rw[map_set h hl];unfold DE aq.pl;simp[h2]
theorem Si {fmt:Int}{l:List ba}{L:List aq}{k j:Nat}{d:ba}{g:aA}(hk:k<l.length)(h:L.map aq.pl=DE fmt l k d j)(hg:d.alts[j]?=some g):
  ∃ x:aq,L[k]?=some x∧x.alts.length=j∧∀ (G:Option Addr)(c1:Nat),(L.set k ⟨x.bar,G,c1,x.alts++[(bc 1 fmt g).1]⟩).map aq.pl=DE fmt l k d (j+1):=by
 unfold DE at h
 have hl:((l.take k).map (eV 1 fmt)).length=k:=by simp;omega
 obtain⟨x,hx,hp⟩:=Qf h hl
 have h1:x.bar=d.bar:=congrArg ba.bar hp
 have h2:x.alts=(d.alts.take j).map fun g=>(bc 1 fmt g).1:=congrArg ba.alts hp
 have hj:=(gS hg).1
 refine⟨x,hx,by rw[h2];simp;omega,fun G c1=>?_⟩
 rw[map_set h hl];unfold DE aq.pl;simp[h1,h2,aS hg]
def DH (fmt:Int)(l:List ba)(w:World)(e:Ending)(w':World):Prop:=
 ∃ (A1:Option Addr) (c1:Nat) (A2:Option Addr) (c2:Nat) (ns bs:List BA),e=.returned (.tuple #[.slice A1 ns.length c1,.slice A2 bs.length c2,.int .i64 (rK fmt l)])∧Below w.heap.size w w'∧Rd w' 1 A1 ns.length (strCells ns)∧Rd w' 1 A2 bs.length (strCells bs) ∧
  (rK fmt l=0→ns.map bl=uW fmt false l∧bs.map bl=uW fmt true l)∧(rK fmt l≠0→ns=[]∧bs=[])
theorem Ky {fmt:Int}{l:List ba}{w w':World}{e:Int}(h:rK fmt l=e)(h0:e≠0)(hb:Below w.heap.size w w'):DH fmt l w (.returned (.tuple #[.slice none 0 0,.slice none 0 0,.int .i64 e])) w':=
 ⟨none,0,none,0,[],[],by rw[h];rfl,hb,Rd.nil _ _ _,Rd.nil _ _ _,fun h1=>absurd (h.symm.trans h1) h0,fun _=>⟨rfl,rfl⟩⟩
theorem Sj {fmt:Int}{l:List ba}(h:¬ dk fmt):rK fmt l=9:=by unfold rK;rw[if_pos h]
theorem Ui {fmt:Int}{l:List ba}(h:dk fmt)(hc:jc l≠0):rK fmt l=jc l:=by unfold rK;rw[if_neg (fun hn=>hn h),if_pos hc]
theorem Tk {fmt:Int}{ds:List aq}{k:Nat}{d:aq}(h:dk fmt)(hc:jc (ds.map aq.pl)=0)(hd:ds[k]?=some d)(h0:∀ y∈ds.take k,nf fmt y.pl=0)(he:nf fmt d.pl≠0):rK fmt (ds.map aq.pl)=nf fmt d.pl:=by
 unfold rK
 rw[if_neg (fun hn=>hn h),if_neg (fun hn=>hn hc)]
 refine ko (k:=k) (by simp[hd]) (fun y hy=>?_) he
 rw[←List.map_take] at hy
 obtain⟨z,hz,rfl⟩:=List.mem_map.1 hy
 exact h0 z hz
theorem Sk {fmt:Int}{ds:List aq}(h:dk fmt)(hc:jc (ds.map aq.pl)=0)(h0:∀ y∈ds,nf fmt y.pl=0):rK fmt (ds.map aq.pl)=0:=by
 unfold rK
 rw[if_neg (fun hn=>hn h),if_neg (fun hn=>hn hc),bB]
 intro y hy
 obtain⟨z,hz,rfl⟩:=List.mem_map.1 hy
 exact h0 z hz
theorem Ng {fmt:Int}{d:ba}(h:fmt=3)(h1:1<d.alts.length):nf fmt d=11:=by unfold nf;rw[if_pos ⟨h,h1⟩]
theorem Nh {fmt:Int}{d:ba}{j:Nat}{g:aA}(h:¬ (fmt=3∧1<d.alts.length))(hg:d.alts[j]?=some g)(h0:∀ y∈d.alts.take j,(bc 1 fmt y).2=0)(he:(bc 1 fmt g).2≠0):nf fmt d=(bc 1 fmt g).2:=by
 unfold nf;rw[if_neg h];exact ko (f:=fun g=>(bc 1 fmt g).2) hg h0 he
theorem Ni {fmt:Int}{d:ba}(h:¬ (fmt=3∧1<d.alts.length))(h0:∀ y∈d.alts,(bc 1 fmt y).2=0):nf fmt d=0:=by
 unfold nf;rw[if_neg h];exact bB.2 h0
theorem Nj {l:List ba}(h:jc l=0):bH l≤64∧∀ d∈l,qt d=0:=by
 unfold jc at h
 split at h
 ·cases h
 ·exact⟨by omega,bB.1 h⟩
structure UI (fmt:Int) (L:List aq):Prop where
 told:∀ d∈L,d.pl.told fmt
 cnt:bH (L.map aq.pl)≤64
 len:L.length≤64
 al:∀ d∈L,d.alts.length≤64
theorem Uj {fmt:Int}{l:List ba}{L:List aq}(hf:dk fmt)(hc:jc l=0)(h0:∀ y∈l,nf fmt y=0)(h:L.map aq.pl=l.map (eV 1 fmt)):UI fmt L:=by
 obtain⟨h1,h2⟩:=Nj hc
 have ht:∀ d∈L,d.pl.told fmt:=by
  intro d hd
  have:d.pl∈l.map (eV 1 fmt):=by rw[←h];exact List.mem_map.2 ⟨d,hd,rfl⟩
  obtain⟨y,hy,e⟩:=List.mem_map.1 this
  rw[←e];exact(rP hf (h2 y hy) (h0 y hy)).1
 have hc2:bH (L.map aq.pl)≤64:=by rw[h,mI];exact h1
 refine⟨ht,hc2,?_,fun d hd=>?_⟩
 ·have:=oB (l:=L.map aq.pl) (fun d hd=>by obtain⟨x,hx,rfl⟩:=List.mem_map.1 hd;exact(ht x hx).ne)
  rw[List.length_map] at this;omega
 ·have:=rN (l:=L.map aq.pl) (List.mem_map.2 ⟨d,hd,rfl⟩)
  have e:d.pl.alts.length=d.alts.length:=rfl
  omega
def nU (l:List aA):Prop:=∀ g∈l,g.nm.size≤300∧g.ver.size≤300
theorem GW {l:List aA}{k:Nat}{x:aA}(h:nU (l.take k))(hx:l[k]?=some x)(h1:x.nm.size≤300)(h2:x.ver.size≤300):nU (l.take (k+1)):=by
 intro g hg
 rw[aS hx] at hg
 rcases List.mem_append.1 hg with hg | hg
 ·exact h g hg
 ·rw[List.mem_singleton.1 hg];exact⟨h1,h2⟩
def tM (p:Prop)(w:World)(e:Ending)(w':World):Prop:=∃ b:Bool,e=.returned (.bool b)∧(b=true→p)∧Below w.heap.size w w'
theorem iV {p:Prop}{w w':World}(h:Below w.heap.size w w'):tM p w (.returned (.bool false)) w':=⟨false,rfl,(fun h=>by cases h),h⟩
theorem nV {p:Prop}{w w':World}(hp:p)(h:Below w.heap.size w w'):tM p w (.returned (.bool true)) w':=⟨true,rfl,fun _=>hp,h⟩
theorem BR (A:Option Addr)(c:Nat)(l:List aA)(most:Nat)(w:World)(hr:Rd w 3 A l.length (l.flatMap aA.cells))(ho:∀ g∈l,yM g)(hl:l.length≤9223372036854775807)(hm:most≤1000):
  Calls Tryz.prog 18 #[.slice A l.length c,.int .i64 most] w (tM (l.length≤most∧nU l) w):=by
 have HR:=ae hr;have HO:=ae ho
 clear hr ho
 by_cases hc:most<l.length
 ·have d1:decide ((most:Int)<l.length)=true:=dT (by omega)
  go_enter Tryz.func18,Tryz.ntmps18
  go_wp2_with fail
  go_ret
  exact iV bR
 have hle:l.length≤most:=by omega
 have d1:decide ((most:Int)<l.length)=false:=dF (by omega)
 go_enter Tryz.func18,Tryz.ntmps18
 go_wp2_with fail
 go_loop [5] (fun i=>∃ k:Nat,k≤l.length∧i=.int .i64 k∧Hid (nU (l.take k))) (fun i=>l.length-(intOf i).toNat)
 case atStart=>exact⟨0,z0,rfl,by intro g hg;simp at hg⟩
 case round=>
  obtain⟨k,hk,rfl,HS⟩:=hrel
  by_cases hlt:k<l.length
  ·obtain⟨x,hx⟩:∃ x,l[k]?=some x:=⟨_,gG hlt⟩
   obtain⟨b,off,hA,he⟩:=HR.out.elem dw k x hx
   have e0:=he 0 _ rfl
   have e2:=he 2 _ rfl
   simp only[Nat.add_zero] at e0
   have hix:=fun W=>aH (T:=31) (E:=53) (sz:=3) (c:=c) Tryz.underlying31 rfl Tryz.sizeOf53 hA hlt W
   obtain⟨z1,z2,_⟩:=HO.out x (gM hx)
   have HX:=ae hx
   clear hx hA he
   by_cases h1:300<x.nm.size
   ·have q1:decide ((300:Int)<x.nm.size)=true:=dT (by omega)
    go_wp2_with fail
    go_ret
    exact iV bR
   have q1:decide ((300:Int)<x.nm.size)=false:=dF (by omega)
   by_cases h2:300<x.ver.size
   ·have q2:decide ((300:Int)<x.ver.size)=true:=dT (by omega)
    go_wp2_with fail
    go_ret
    exact iV bR
   have q2:decide ((300:Int)<x.ver.size)=false:=dF (by omega)
   have HN:Hid (nU (l.take (k+1))):=GW HS.out HX.out (by omega) (by omega)
   clear h1 h2
   go_wp2_with fail
   go_round
   case rel=>exact⟨k+1,by omega,by go_num,HN⟩
   case measure=>simp[intOf];omega
  ·have HN:Hid (nU l):=by have:=HS.out;rwa [tL (by omega)] at this
   go_wp2_with fail
   go_ret
   exact nV HN.out bR
theorem yO {α:Type}{p:α→Prop}{l:List α}{k:Nat}{x:α}(h:∀ y∈l.take k,p y)(hx:l[k]?=some x)(hp:p x):∀ y∈l.take (k+1),p y:=by
 intro g hg
 rw[aS hx] at hg
 rcases List.mem_append.1 hg with hg | hg
 ·exact h g hg
 ·rw[List.mem_singleton.1 hg];exact hp
end
end Go.Proofs.YtkjdbpjglobbjaaGreatDoor
