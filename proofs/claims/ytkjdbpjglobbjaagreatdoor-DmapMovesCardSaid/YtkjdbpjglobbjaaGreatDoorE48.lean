/- A part of the proof of a law on dependencies in three formats. No condition. -/
import Derived.Test.YtkjdbpjglobbjaaGreatDoorE32
import Derived.Test.YtkjdbpjglobbjaaGreatDoorE46
set_option maxRecDepth 100000
set_option maxHeartbeats 20000000
set_option linter.unusedVariables false
set_option linter.unusedSimpArgs false
namespace Go.Proofs.YtkjdbpjglobbjaaGreatDoor
section
open Go.RowKit
theorem MY {d:aq}{g:aA}(h:d.alts=[g])(h0:0≤g.op):(jp d.pl).cells=[.bool d.bar,.string g.nm,.int .i64 g.op,.string g.ver]:=by
 have e:jp d.pl=⟨d.bar,bl g.nm,g.op.toNat,bl g.ver⟩:=by
  unfold jp aq.pl;simp only;rw[h]
 rw[e];unfold dR.cells;simp only
 rw[iP,iP,Int.toNat_of_nonneg h0]
theorem GI (w:World)(s:BA):Rd (w.alloc (.cells #[.string s] 9)) 1 (some ⟨w.heap.size,0,none⟩) [s].length (strCells [s]):=by
 refine⟨rfl,fun _=>⟨_,_,rfl,fun j u hu=>?_⟩⟩
 have:=(aF.new w [.string s] 9).cell j u hu
 simpa using this
theorem JA (A:Option Addr)(c:Nat)(ds:List aq)(w:World)(hG:Gl w)(hd:eW w A ds)(hl:ds.length≤64)(ht:∀ d∈ds,d.pl.told 3):
  Calls Tryz.prog 24 #[.slice A ds.length c] w fun e w'=>∃ (A1:Option Addr) (c1:Nat) (ns:List BA),e=.returned (.tuple #[.slice A1 ns.length c1,.int .i64 0])∧Below w.heap.size w w'∧Rd w' 1 A1 ns.length (strCells ns)∧ns.map bl=cT 3 false (ds.map aq.pl):=by
 obtain⟨i0,hi,hz0,hz1,hz2⟩:=info_parts AP
 have HG:=ae hG;have HD:=ae hd
 have HONE:Hid (∀ d∈ds,∃ g,d.alts=[g]∧g.told 3):=by
  intro d hm
  have h:=ht d hm
  have h1:d.alts.length=1:=h.apk rfl
  match he:d.alts with
  | []=>rw[he] at h1;simp at h1
  | [g]=>exact⟨g,rfl,h.each g (by show g∈d.alts;rw[he];simp)⟩
  | g::g2::r=>rw[he] at h1;simp at h1
 have HWB:Hid (∀ x∈(ds.map aq.pl).map jp,x.right):=by
  intro x hx
  obtain⟨p,hp,rfl⟩:=List.mem_map.1 hx
  obtain⟨d,hm,rfl⟩:=List.mem_map.1 hp
  obtain⟨g,e,hg⟩:=HONE.out d hm
  have:jp d.pl=⟨d.bar,bl g.nm,g.op.toNat,bl g.ver⟩:=by unfold jp aq.pl;simp only;rw[e]
  rw[this];exact(FM d.bar hg).right
 have HTX:Hid (cT 3 false (ds.map aq.pl)=if ds.map aq.pl=[] then [] else [fz ((ds.map aq.pl).map jp)]):=by
  show _=_;unfold cT;rw[if_neg (by decide),if_neg (by decide)];simp
 clear hG hd ht
 by_cases h0:ds.length=0
 ·have q:((ds.length:Int)==0)=true:=by rw[h0];rfl
  have E:Hid (cT 3 false (ds.map aq.pl)=[]):=by show _=_;rw[HTX.out,if_pos (by rw[List.length_eq_zero_iff.1 h0];rfl)]
  clear h0
  go_enter Tryz.func24,Tryz.ntmps24
  go_wp2_with fail
  go_ret2
  exact⟨none,0,[],rfl,bR,Rd.nil _ _ _,by rw[E.out];rfl⟩
 have q:((ds.length:Int)==0)=false:=beq_eq_false_iff_ne.2 (by omega)
 have E:Hid (cT 3 false (ds.map aq.pl)=[fz ((ds.map aq.pl).map jp)]):=by
  show _=_;rw[HTX.out,if_neg];intro e;apply h0;have:=congrArg List.length e;simpa using this
 clear h0 HTX
 go_enter Tryz.func24,Tryz.ntmps24
 go_wp2_with fail
 clear q
 go_loopw [4,14] (fun s4 s14 wr=>∃ (k:Nat) (O:Option Addr) (oc:Nat),k≤ds.length∧s4=.slice O k oc∧s14=.int .i64 k∧Hid (wr.ownsRow w.heap.size 86 4 (.slice O k oc) k (((ds.map aq.pl).map jp).take k |>.flatMap dR.cells))∧Hid (Below w.heap.size w wr)) (fun _ i _=>ds.length-(intOf i).toNat)
 case atStart=>exact⟨0,none,0,z0,rfl,rfl,by simpa [Hid] using World.ownsRow_nil w _ _ _,bR⟩
 case round=>
  obtain⟨k,O,oc,hk,rfl,rfl,HO,HB⟩:=hrel
  by_cases hlt:k<ds.length
  ·obtain⟨d,hdk⟩:∃ d,ds[k]?=some d:=⟨_,gG hlt⟩
   have hm:=gM hdk
   obtain⟨b,off,hA,he⟩:=(HD.out.row.below HB.out).elem fI k d hdk
   have e0:=he 0 _ rfl
   have e1:=he 1 _ rfl
   simp only[Nat.add_zero] at e0
   have hix:=fun W=>aH (T:=22) (E:=33) (sz:=2) (c:=c) Tryz.underlying22 rfl Tryz.sizeOf33 hA hlt W
   obtain⟨g,hg,hgt⟩:=HONE.out d hm
   have hdr:=(HD.out.all d hm).below HB.out
   rw[hg] at hdr
   have hlen1:d.alts.length=1:=by rw[hg];rfl
   rw[hlen1] at e1
   have HTK:Hid ((((ds.map aq.pl).map jp).take (k+1)).flatMap dR.cells=(((ds.map aq.pl).map jp).take k).flatMap dR.cells++[.bool d.bar,.string g.nm,.int .i64 g.op,.string g.ver]):=by
    show _=_
    rw[aS (l:=(ds.map aq.pl).map jp) (x:=jp d.pl) (by simp[hdk]),List.flatMap_append,←MY hg hgt.op0];simp
   have HDR:=ae hdr
   obtain⟨db,hdb⟩:∃ db,d.bar=db:=⟨_,rfl⟩
   rw[hdb] at e0 HTK
   clear hdk hA he hm hg hgt hdr hlen1 hdb
   obtain⟨W2,hW2⟩:∃ W2,wr.alloc (.cells #[.bool db,.slice d.aa 1 d.ac] 33)=W2:=⟨_,rfl⟩
   have B2:Hid (Below wr.heap.size wr W2):=by rw[←hW2];exact bR.alloc lr _
   have K2:Hid (aF W2 wr.heap.size [.bool db,.slice d.aa 1 d.ac]):=by show aF _ _ _;rw[←hW2];exact aF.new wr [.bool db,.slice d.aa 1 d.ac] _
   have k0:=K2.out.cell 0 _ rfl
   have k1:=K2.out.cell 1 _ rfl
   obtain⟨b2,off2,hA2,he2⟩:=(Rd.elem (l:=[g]) dw (HDR.out.below B2.out) 0 g rfl)
   have g0:=he2 0 _ rfl
   have g1:=he2 1 _ rfl
   have g2:=he2 2 _ rfl
   simp only[Nat.add_zero,Nat.zero_mul] at g0 g1 g2
   have hix2:∀ W,(Instr.indexAt 31 (.slice d.aa 1 d.ac) (.int .i64 0)).run Tryz.prog W=.ok (.pointer (some ⟨b2,off2,none⟩)) W:=fun W=>by
    have:=aH (T:=31) (E:=53) (sz:=3) (n:=1) (k:=0) (c:=d.ac) Tryz.underlying31 rfl Tryz.sizeOf53 hA2 (by omega) W
    simpa using this
   have HO2:=ae (aR HO.out B2.out)
   have BW:=ae (ah HB.out B2.out)
   have hwz:=BW.out.size
   clear hA2 he2
   have HW2:=ae hW2
   clear hW2
   go_upto_region 7 with(fail)
   rw[HW2.out]
   go_region_law
    ((refine dj _ (by rfl) _ _ _ (by rfl) w.heap.size 86 i0 _ 4 48 Tryz.underlying71 hi hz0 hz1 hz2 rfl (by omega) (.slice O k oc) k _ (by rfl) ((HO2.out.alloc _).drew)
       (W2.heap.size+1) (some ⟨W2.heap.size,0,none⟩) 1 1 [.bool db,.string g.nm,.int .i64 g.op,.string g.ver] (by rfl) (wR W2 _ _ _ _ _) (by simp[Value.oneCell']) (by unfold maxLen;omega) (by omega) (by simp;omega) ?_
      intro v1 w6 hown1 hg1 hat1
      obtain⟨O1,c1,rfl⟩:=aG hown1))
   all_goals
    have BW6:Hid (Below w.heap.size w w6):=((BW.out.alloc hwz (.cells #[.bool db,.string g.nm,.int .i64 g.op,.string g.ver] 86)).drew).grown hg1 (by simp;omega) (fun q hq=>(HO2.out.lt q hq).1)
    have O6:Hid (w6.ownsRow w.heap.size 86 4 (.slice O1 (k+1) c1) (k+1) ((((ds.map aq.pl).map jp).take (k+1)).flatMap dR.cells)):=by
     show World.ownsRow _ _ _ _ _ _ _;rw[HTK.out];exact hown1
    clear hown1 hg1 hat1
    go_wp2_with fail
    go_roundw
    case rel=>exact⟨k+1,O1,c1,by omega,rfl,by go_num,O6,BW6⟩
    case measure=>simp[intOf];omega
  ·have HO3:Hid (Rd wr 4 O ((ds.map aq.pl).map jp).length (((ds.map aq.pl).map jp).flatMap dR.cells)):=by
    have h:=bA HO.out
    rw[tL (by simp;omega)] at h
    show Rd _ _ _ _ _
    rw[show((ds.map aq.pl).map jp).length=k by simp;omega];exact h
   have hk2:k=((ds.map aq.pl).map jp).length:=by simp;omega
   have HK2:=ae hk2
   have hLL:((ds.map aq.pl).map jp).length≤64:=by simp;omega
   have HPR:=ae (IC O oc _ HWB.out hLL wr (HG.out.below HB.out) HO3.out)
   rw[←hk2] at HPR
   clear hk2
   go_wp2_with fail
   refine HPR.out.mono ?_;rintro e w5 ⟨rfl,hb5⟩
   have B5:=ae (ah HB.out hb5)
   clear hb5
   obtain⟨ts,hts⟩:∃ ts,bz (fz ((ds.map aq.pl).map jp))=ts:=⟨_,rfl⟩
   have HTS:Hid (bl ts=fz ((ds.map aq.pl).map jp)):=by show _=_;rw[←hts,cH]
   rw[hts]
   clear hts
   have RT:=ae (GI w5 ts)
   have B6:=ae (ah B5.out (bR.alloc lr (.cells #[.string ts] 9)))
   go_wp2_with fail
   go_ret2
   exact⟨some ⟨w5.heap.size,0,none⟩,1,[ts],rfl,B6.out,RT.out,by rw[E.out,List.map_singleton,HTS.out]⟩
def PW:BA:=⟨#[111,114]⟩
def eO (g:aA):aj:=.mk ⟨#[]⟩ g.nm g.op.toNat g.ver none 0 []
theorem GN (g:aA):(eO g).pl=dK g:=by unfold eO dK;simp[aj.pl,bl]
theorem yB {g:aA}(h:0≤g.op):(eO g).cells=[.string ⟨#[]⟩,.string g.nm,.int .i64 g.op,.string g.ver,.slice none 0 0]:=by
 unfold eO aj.cells
 simp only[aj.op,aj.nm,aj.aop,aj.ver,aj.ka,aj.kids,aj.kc,List.length_nil]
 rw[Int.toNat_of_nonneg h]
theorem BK {g:aA}(h:g.told 2):dH (eO g):=by
 have h5:=h.op5;have h0:=h.op0
 refine .atom _ _ _ (Dj h.name) (by omega) (fun e=>?_) (fun e=>?_)
 ·have:=h.none (by omega);rw[←af,this];rfl
 ·obtain⟨c,hc,hv⟩:=h.ver (by omega)
  have:=kG (.inr (.inl rfl)) hc
  rw[←hv,iP] at this;exact this
theorem BL (w:World)(lo:Nat)(bad:Option Nat)(g:aA):ce w lo bad (eO g):=.mk _ (World.ownsRow_nil _ _ _ _) (by simp[eO,aj.ka,aj.kids,aj.kc,Value.ownBlock]) (by simp[eO,aj.kids])
theorem Na {l:List aA}(h:∀ g∈l,g.told 2)(h2:2≤l.length)(K:Option Addr)(kc:Nat):dH (.mk PW ⟨#[]⟩ 0 ⟨#[]⟩ K kc (l.map eO)):=by
 refine .node _ _ _ _ (by decide) ?_ (fun k hk=>?_)
 ·show bL eE (l.map eO).length=true
  unfold bL
  rw[List.length_map]
  simp[eE,eU,oZ,bS,fA,bY];try omega
 ·obtain⟨g,hg,rfl⟩:=List.mem_map.1 hk;exact BK (h g hg)
theorem yC:∀ (l:List aA),dE (l.map eO)=l.length∧By (l.map eO)≤1
 | []=>⟨rfl,by simp[By]⟩
 | g::r=>by
  obtain⟨h1,h2⟩:=yC r
  have e1:(eO g).cnt=1:=xS rfl
  have e2:(eO g).ht=0:=vx.2 rfl
  simp only[List.map_cons,dE,By,h1,e1,e2,List.length_cons]
  omega
structure Nb (w wr:World) (ns:List BA) (A1:Option Addr) (n1 c1:Nat) (bs:List BA) (A2:Option Addr) (n2 c2:Nat):Prop where
 r1:wr.ownsRow w.heap.size 9 1 (.slice A1 n1 c1) n1 (strCells ns)
 r2:wr.ownsRow w.heap.size 9 1 (.slice A2 n2 c2) n2 (strCells bs)
 ne:∀ g,(Value.slice A1 n1 c1).ownBlock=some g→(Value.slice A2 n2 c2).ownBlock≠some g
 l1:ns.length=n1
 l2:bs.length=n2
 bel:Below w.heap.size w wr
theorem Nb.start (w:World):Nb w w [] none 0 0 [] none 0 0:=⟨World.ownsRow_nil _ _ _ _,World.ownsRow_nil _ _ _ _,by simp[Value.ownBlock],rfl,rfl,bR⟩
theorem Nb.below {w wr w':World}{ns bs:List BA}{A1 A2:Option Addr}{n1 c1 n2 c2:Nat}(h:Nb w wr ns A1 n1 c1 bs A2 n2 c2)(hb:Below wr.heap.size wr w'):Nb w w' ns A1 n1 c1 bs A2 n2 c2:=
 ⟨aR h.r1 hb,aR h.r2 hb,h.ne,h.l1,h.l2,ah h.bel hb⟩
theorem si (a b:List BA):strCells (a++b)=strCells a++strCells b:=by simp[strCells]
theorem Nb.add1 {w wr w2:World}{ns bs:List BA}{A1 A2 B1:Option Addr}{n1 c1 n2 c2 d1:Nat}{s:BA}{o:Obj}(h:Nb w wr ns A1 n1 c1 bs A2 n2 c2)
  (hr:w2.ownsRow w.heap.size 9 1 (.slice B1 (n1+1) d1) (n1+1) (strCells ns++[.string s]))(hg:(wr.alloc o).grownBy w2 (Value.slice A1 n1 c1).ownBlock)
  (ha:(Value.slice B1 (n1+1) d1).ownBlock=(Value.slice A1 n1 c1).ownBlock∨(Value.slice B1 (n1+1) d1).ownBlock=some (wr.alloc o).heap.size):Nb w w2 (ns++[s]) B1 (n1+1) d1 bs A2 n2 c2:=by
 have ho:=h.below ((Below.refl wr.heap.size wr).alloc lr o)
 refine⟨by rw[si];exact hr,ho.r2.kept hg ?_,fun g hg1=>?_,by simp[h.l1],h.l2,ho.bel.grown hg ho.bel.size (fun j hj=>(ho.r1.lt j hj).1)⟩
 ·cases hq:(Value.slice A2 n2 c2).ownBlock with
  | none=>exact .inl rfl
  | some g=>right;intro e;exact h.ne g e.symm hq
 ·rcases ha with ha | ha
  ·rw[ha] at hg1;exact h.ne g hg1
  ·rw[ha] at hg1;injection hg1 with hg1
   intro e;have:=(ho.r2.lt g e).2;omega
theorem Nb.add2 {w wr w2:World}{ns bs:List BA}{A1 A2 B2:Option Addr}{n1 c1 n2 c2 d2:Nat}{s:BA}{o:Obj}(h:Nb w wr ns A1 n1 c1 bs A2 n2 c2)
  (hr:w2.ownsRow w.heap.size 9 1 (.slice B2 (n2+1) d2) (n2+1) (strCells bs++[.string s]))(hg:(wr.alloc o).grownBy w2 (Value.slice A2 n2 c2).ownBlock)
  (ha:(Value.slice B2 (n2+1) d2).ownBlock=(Value.slice A2 n2 c2).ownBlock∨(Value.slice B2 (n2+1) d2).ownBlock=some (wr.alloc o).heap.size):Nb w w2 ns A1 n1 c1 (bs++[s]) B2 (n2+1) d2:=by
 have ho:=h.below ((Below.refl wr.heap.size wr).alloc lr o)
 refine⟨ho.r1.kept hg ?_,by rw[si];exact hr,fun g hg1=>?_,h.l1,by simp[h.l2],ho.bel.grown hg ho.bel.size (fun j hj=>(ho.r2.lt j hj).1)⟩
 ·cases hq:(Value.slice A1 n1 c1).ownBlock with
  | none=>exact .inl rfl
  | some g=>right;intro e;exact h.ne g hq e.symm
 ·rcases ha with ha | ha
  ·rw[ha];exact h.ne g hg1
  ·rw[ha];intro e;injection e with e;have:=(ho.r1.lt g hg1).2;omega
def DC (N B:List (LU))(w:World)(e:Ending)(w':World):Prop:=
 ∃ (A1:Option Addr) (c1:Nat) (A2:Option Addr) (c2:Nat) (ns bs:List BA),e=.returned (.tuple #[.slice A1 ns.length c1,.slice A2 bs.length c2,.int .i64 0])∧Below w.heap.size w w'∧Rd w' 1 A1 ns.length (strCells ns)∧Rd w' 1 A2 bs.length (strCells bs)∧ns.map bl=N∧bs.map bl=B
theorem BM (bar:Bool)(l:List ba):cT 2 bar l=(dM bar l).map fun d=>bP (pf d):=by unfold cT;rw[if_neg (by decide),if_pos rfl]
theorem yD {bar:Bool}{l:List aq}{k:Nat}{d:aq}(h:l[k]?=some d):cT 2 bar ((l.take (k+1)).map aq.pl)=cT 2 bar ((l.take k).map aq.pl)++(if d.bar=bar then [bP (pf d.pl)] else []):=by
 rw[BM,BM,aS h,List.map_append]
 unfold dM
 rw[List.filter_append,List.map_append]
 congr 1
 by_cases hb:d.bar=bar
 ·rw[if_pos hb];simp[aq.pl,hb]
 ·rw[if_neg hb];simp[aq.pl,hb]
def pi (fmt:Int)(l:LU):LU×LU×LU:=(bC fmt l).getD ([],[],[])
def tH (a b:BA):Int:=if aV 2 a≠0∨aV 2 b≠0 then 0 else bT id [iG (pi 2 (bl a)).1 (pi 2 (bl b)).1,fv (pi 2 (bl a)).2.1 (pi 2 (bl b)).2.1,fv (pi 2 (bl a)).2.2 (pi 2 (bl b)).2.2]
theorem jV (a b:BA)(w:World)(hG:Gl w)(ha:a.size≤1000000)(hb:b.size≤1000000):
  Calls Tryz.prog 138 #[.int .i64 2,.string a,.string b] w fun e w'=>e=.returned (.int .i64 (tH a b))∧Below w.heap.size w w':=by
 have HG:=ae hG
 clear hG
 have S1:=ae fun W hw=>mG 2 (.inr (.inl rfl)) a W (HG.out.below hw) (by omega)
 have S2:=ae fun W hw=>mG 2 (.inr (.inl rfl)) b W (HG.out.below hw) (by omega)
 obtain⟨ca,hca⟩:∃ ca,aV 2 a=ca:=⟨_,rfl⟩
 obtain⟨cb,hcb⟩:∃ cb,aV 2 b=cb:=⟨_,rfl⟩
 rw[hca] at S1
 rw[hcb] at S2
 have CA:=ae hca;have CB:=ae hcb
 clear hca hcb ha hb
 go_enter Tryz.func138,Tryz.ntmps138
 go_wp2_with fail
 refine(S1.out w bR).mono ?_;rintro e w1 ⟨ep,pr,rv,rfl,hp1,hb1⟩
 have B1:=ae hb1;have P1:=ae hp1
 clear hb1 hp1 S1
 by_cases h1:ca≠0
 ·have q:(ca != 0)=true:=by simpa [bne] using h1
  have E:Hid (tH a b=0):=by show _=_;unfold tH;rw[if_pos (.inl (by rw[CA.out];exact h1))]
  clear h1
  go_wp2_with fail
  go_ret
  exact⟨az E.out.symm,B1.out⟩
 have q:(ca != 0)=false:=by rw[Decidable.not_not.1 h1];rfl
 have CA0:Hid (aV 2 a=0):=by show _=_;rw[CA.out];exact Decidable.not_not.1 h1
 obtain⟨x1,x2,x3,x4,x5⟩:=P1.out (Decidable.not_not.1 h1)
 have X1:=ae x1
 clear h1 x1 P1
 go_wp2_with fail
 refine(S2.out w1 B1.out).mono ?_;rintro e w2 ⟨eq,ps,rw',rfl,hp2,hb2⟩
 have B2:=ae (ah B1.out hb2);have P2:=ae hp2
 clear hb2 hp2 S2
 by_cases h2:cb≠0
 ·have q2:(cb != 0)=true:=by simpa [bne] using h2
  have E:Hid (tH a b=0):=by show _=_;unfold tH;rw[if_pos (.inr (by rw[CB.out];exact h2))]
  clear h2
  go_wp2_with fail
  go_ret
  exact⟨az E.out.symm,B2.out⟩
 have q2:(cb != 0)=false:=by rw[Decidable.not_not.1 h2];rfl
 have CB0:Hid (aV 2 b=0):=by show _=_;rw[CB.out];exact Decidable.not_not.1 h2
 obtain⟨y1,y2,y3,y4,y5⟩:=P2.out (Decidable.not_not.1 h2)
 have E:Hid (tH a b=bT id [iG (bl ep) (bl eq),fv (bl pr) (bl ps),fv (bl rv) (bl rw')]):=by
  show _=_;unfold tH pi
  rw[if_neg (fun h=>h.elim (fun h=>h CA0.out) (fun h=>h CB0.out)),X1.out,y1];rfl
 clear h2 y1 P2
 have N1:=ae fun W=>fN ep eq W
 have N2:=ae fun W=>kS pr ps W (by omega) (by omega)
 have N3:=ae fun W=>kS rv rw' W (by omega) (by omega)
 generalize iG (bl ep) (bl eq)=c1 at *
 generalize fv (bl pr) (bl ps)=c2 at *
 generalize fv (bl rv) (bl rw')=c3 at *
 have HO:=ae fun (W:World)=>JJ (some ⟨W.heap.size,0,none⟩) 3 [c1,c2,c3] (W.alloc (.cells (fu [c1,c2,c3]).toArray 3)) (DI W _ _) (by simp)
 have ic:fu [c1,c2,c3]=[.int .i64 c1,.int .i64 c2,.int .i64 c3]:=rfl
 rw[ic] at HO
 clear ic
 go_wp2_with fail
 refine(N1.out _).mono ?_;rintro e w3 ⟨rfl,hb3⟩
 have B3:=ae (ah B2.out hb3)
 clear hb3
 go_wp2_with fail
 refine(N2.out _).mono ?_;rintro e w4 ⟨rfl,hb4⟩
 have B4:=ae (ah B3.out hb4)
 clear hb4
 go_wp2_with fail
 refine(N3.out _).mono ?_;rintro e w5 ⟨rfl,hb5⟩
 have B5:=ae (ah B4.out hb5)
 clear hb5
 go_wp2_with fail
 refine(HO.out w5).mono ?_;rintro e w6 ⟨rfl,hb6⟩
 have B6:=ae (ah (ah B5.out (bR.alloc lr (.cells #[.int .i64 c1,.int .i64 c2,.int .i64 c3] 3))) hb6)
 clear hb6
 go_wp2_with fail
 go_ret
 exact⟨az E.out.symm,B6.out⟩
structure kT (w:World) (A:Option Addr) (x:aB):Prop where
 row:Rd w 3 A 1 x.cells
structure pm where
 tA:Option Addr
 tn:Nat
 tc:Nat
 T:aj
 tB:Option Addr
 tm:Nat
 td:Nat
def pm.cells (t:pm):List Value:=[.slice t.tA t.tn t.tc,.string t.T.op,.string t.T.nm,.int .i64 t.T.aop,.string t.T.ver,.slice t.T.ka t.T.kids.length t.T.kc,.slice t.tB t.tm t.td]
theorem BP:(Tryz.prog.info? 73).map (fun i=>(i.zero,i.size,i.bytes))=some (some (.agg #[.slice none 0 0,.string ⟨#[]⟩,.string ⟨#[]⟩,.int .i64 0,.string ⟨#[]⟩,.slice none 0 0,.slice none 0 0]),7,128):=by kernel_rfl
theorem yL (w:World)(t:TypeId)(a b c d e f g:Value):jQ (w.alloc (.cells #[a,b,c,d,e,f,g] t)) (w.heap.size+1) 7 (some ⟨w.heap.size,0,none⟩) 1 [a,b,c,d,e,f,g]:=by
 refine⟨rfl,fun _=>⟨_,rfl,by simp,fun j u hu=>?_⟩⟩
 match j,hu with
 | 0,hu=>simp at hu;subst hu;simp[Addr.add]
 | 1,hu=>simp at hu;subst hu;simp[Addr.add]
 | 2,hu=>simp at hu;subst hu;simp[Addr.add]
 | 3,hu=>simp at hu;subst hu;simp[Addr.add]
 | 4,hu=>simp at hu;subst hu;simp[Addr.add]
 | 5,hu=>simp at hu;subst hu;simp[Addr.add]
 | 6,hu=>simp at hu;subst hu;simp[Addr.add]
 | j+7,hu=>simp at hu
def QZ:BA:=⟨#[97,97,32,40,62,61,32,49,46,48,45,49,41,32,124,32,98,98]⟩
def N7:BA:=⟨#[40,97,97,32,62,61,32,49,46,48,45,49,32,111,114,32,98,98,41]⟩
def Uw:BA:=⟨#[97,97]⟩
def So:BA:=⟨#[49,46,48,45,49]⟩
def UJ:BA:=⟨#[98,98]⟩
def Qm:List ba:=[⟨false,[⟨Uw,4,So⟩,⟨UJ,0,⟨#[]⟩⟩]⟩]
theorem Sp:ek 1 false [bl QZ]=0:=by kernel_rfl
theorem Qn:cq 1 false [bl QZ]=Qm:=by kernel_rfl
theorem Qo:rK 2 Qm=0:=by kernel_rfl
theorem Qp:rK 3 Qm=11:=by kernel_rfl
theorem Qq:uW 2 false Qm=[bl N7]:=by kernel_rfl
theorem Sq:uW 2 true Qm=[]:=by kernel_rfl
end
end Go.Proofs.YtkjdbpjglobbjaaGreatDoor
