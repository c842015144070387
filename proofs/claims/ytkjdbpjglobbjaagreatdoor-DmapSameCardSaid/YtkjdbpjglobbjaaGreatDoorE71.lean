/- A part of the proof of a law on dependencies in three formats. No condition. -/
import Derived.Test.YtkjdbpjglobbjaaGreatDoorE51
import Derived.Test.YtkjdbpjglobbjaaGreatDoorE59
import Derived.Test.YtkjdbpjglobbjaaGreatDoorE70
set_option maxRecDepth 100000
set_option maxHeartbeats 20000000
set_option linter.unusedVariables false
set_option linter.unusedSimpArgs false
namespace Go.Proofs.YtkjdbpjglobbjaaGreatDoor
section
open Go.RowKit
inductive gQ.nes:gQ→Prop
 | atom (nm:LU) (op:Nat) (v:LU):nes (.atom nm op v)
 | node (op:LU) (ks:List gQ) (h:ks≠[]) (hk:∀ k∈ks,nes k):nes (.node op ks)
theorem NT {n:Nat}{l:LU}{t:gQ}{r:LU×Nat}(h:fX n l=some (t,r)):t.nes:=by
 unfold fX at h
 split at h
 ·cases h
 ·split at h
  ·unfold kH at h
   split at h
   ·injection h with h;injection h with h _;rw[←h];exact .atom _ _ _
   ·unfold jK at h
    split at h
    ·cases h
    ·split at h
     ·injection h with h;injection h with h _;rw[←h];exact .atom _ _ _
     ·cases h
  ·cases h
theorem Hn:∀ f:Nat,(∀ deep n l t r,fK f deep n l=some (t,r)→t.nes)∧(∀ deep n acc op l t r,(∀ k∈acc,gQ.nes k)→iF f deep n acc op l=some (t,r)→t.nes)
 | 0=>⟨fun _ _ _ _ _ h=>by simp[fK] at h,fun _ _ _ _ _ _ _ _ h=>by simp[iF] at h⟩
 | f+1=>by
  obtain⟨h1,h2⟩:=Hn f
  constructor
  ·intro deep n l t r h
   unfold fK at h
   split at h
   ·cases h
   ·split at h
    ·split at h
     ·cases h
     ·exact h2 _ _ _ _ _ _ _ (fun k hk=>by simp at hk) h
    ·exact NT h
  ·intro deep n acc op l t r ha h
   unfold iF at h
   split at h
   ·cases h
   ·rename_i k l1 n1 hd
    have hk:=h1 _ _ _ _ _ hd
    have ha2:∀ x∈acc++[k],gQ.nes x:=by
     intro x hx
     rcases List.mem_append.1 hx with hx | hx
     ·exact ha x hx
     ·rw[List.mem_singleton.1 hx];exact hk
    split at h
    ·injection h with h;injection h with h _;rw[←h]
     exact .node _ _ (by simp) ha2
    ·split at h
     ·exact h2 _ _ _ _ _ _ _ ha2 h
     ·cases h
theorem JW {l:LU}{t:gQ}(h:dD l=some t):t.nes:=by
 unfold dD at h
 split at h
 ·cases h
 ·rename_i hd
  split at h
  ·injection h with h;rw[←h];exact(Hn _).1 _ _ _ _ _ hd
  ·cases h
theorem QV {p:gQ}(h:p.nes):pG p≠[]:=by
 cases h with
 | atom=>simp[pG]
 | node op ks hk _=>
  show(if op=eE then ks else [.node op ks])≠[]
  by_cases e:op=eE
  ·rw[if_pos e];exact hk
  ·rw[if_neg e];simp
theorem NU {p:gQ}(h:p.nes):∀ q∈nL p,q.nes:=by
 cases h with
 | atom nm op v=>intro q hq;simp[nL] at hq;rw[hq];exact .atom _ _ _
 | node op ks hk hks=>
  intro q hq
  replace hq:q∈(if op=eU then ks else [.node op ks]):=hq
  by_cases e:op=eU
  ·rw[if_pos e] at hq;exact hks q hq
  ·rw[if_neg e] at hq;rw[List.mem_singleton.1 hq];exact .node _ _ hk hks
theorem Ta {fmt:Int}(hf:dk fmt){bar:Bool}{s:LU}(hs:s.length≤1000000)(h:(bX fmt bar s).2=0):∀ d∈(bX fmt bar s).1,d.alts≠[]:=by
 rcases hf with rfl | rfl | rfl
 ·cases hd:eT s with
  | none=>rw[Dz hd] at h;cases h
  | some L=>
   have hg:=qB hd hs
   rw[Jq hd] at h ⊢
   unfold pE at h ⊢
   split at h
   ·cases h
   ·rename_i hb
    rw[if_neg hb]
    intro d hm
    obtain⟨g,hg2,rfl⟩:=List.mem_map.1 hm
    simpa using hg.ne g hg2
 ·cases hd:dD s with
  | none=>rw[DA hd] at h;cases h
  | some t=>
   have hn:=JW hd
   rw[Jr hd] at h ⊢
   unfold kK at h ⊢
   by_cases hb:bar=true
   ·rw[if_pos hb] at h ⊢
    by_cases ha:FK t=true
    ·rw[if_pos ha];intro d hm;rw[List.mem_singleton.1 hm];simp
    ·rw[if_neg ha] at h;cases h
   ·rw[if_neg hb] at h ⊢
    split at h
    ·rename_i hl
     rw[if_pos hl]
     intro d hm
     obtain⟨p,hp,rfl⟩:=List.mem_map.1 hm
     simpa using QV (NU hn p hp)
    ·cases h
 ·cases hd:eR s with
  | none=>rw[DB hd] at h;cases h
  | some L=>
   rw[Js hd] at h ⊢
   unfold rL at h ⊢
   split at h
   ·cases h
   ·rename_i hb
    rw[if_neg hb]
    intro d hm
    obtain⟨g,hg2,rfl⟩:=List.mem_map.1 hm
    simp
theorem uI {a b:Int}{g:aA}(h:(bc a b g).2=0):(bc a b g).1.nm.size≤64∧(bc a b g).1.ver.size≤64∧(bc a b g).1.op=g.op:=by
 have hn:bo (bl g.nm)=true:=by
  cases hd:bo (bl g.nm)
  ·unfold bc at h;rw[if_pos hd] at h;cases h
  ·rfl
 have hl:=(me hn).2
 rw[af] at hl
 rcases mR h with⟨h0,e⟩ | ⟨h0,ht,e⟩
 ·rw[e];exact⟨hl,by show(⟨#[]⟩:BA).size≤64;decide,h0.symm⟩
 ·rw[e]
  refine⟨hl,?_,rfl⟩
  have:=ue (a:=a) (b:=b) (s:=g.ver)
  show(⟨(trans a b g.ver).1.toArray⟩:BA).size≤64
  rw[Ci,bQ];exact this
theorem Ho {fmt:Int}{bar:Bool}{ts:List (LU)}(h:ek fmt bar ts=0)(hs:∀ s∈ts,s.length≤1000000):(cq fmt bar ts).length≤64∧∀ d∈cq fmt bar ts,d.alts.length≤64∧∀ g∈d.alts,g.nm.size≤64∧g.ver.size≤64:=by
 obtain⟨hf,h1,h2⟩:=tT h
 have hc:bH (cq fmt bar ts)≤64:=by
  unfold ek at h
  rw[if_neg (fun hn=>hn hf)] at h
  split at h
  ·rename_i hh;exact absurd h hh
  ·split at h
   ·cases h
   ·omega
 have hne:∀ d∈cq fmt bar ts,d.alts≠[]:=by
  intro d hd
  rw[sG] at hd
  obtain⟨x,hx,rfl⟩:=List.mem_map.1 hd
  obtain⟨s,hsm,hxs⟩:=List.mem_flatMap.1 hx
  have:=Ta hf (hs s hsm) (h1 s hsm) x hxs
  unfold eV;simpa using this
 refine⟨Nat.le_trans (oB hne) hc,fun d hd=>⟨Nat.le_trans (rN hd) hc,fun g hg=>?_⟩⟩
 rw[sG] at hd
 obtain⟨x,hx,rfl⟩:=List.mem_map.1 hd
 obtain⟨y,hy,rfl⟩:=List.mem_map.1 hg
 have:=uI (h2 x hx y hy)
 exact⟨this.1,this.2.1⟩
theorem Eh {fmt:Int}{bar:Bool}{ts:List (LU)}(h:ek fmt bar ts=0)(ho:∀ d∈cq fmt bar ts,∀ g∈d.alts,0≤g.op∧g.op≤5):∀ s∈ts,Cp fmt bar s:=by
 obtain⟨hf,h1,h2⟩:=tT h
 intro s hs
 refine⟨h1 s hs,fun d hd g hg=>?_⟩
 have hr:d∈og fmt bar ts:=List.mem_flatMap.2 ⟨s,hs,hd⟩
 have hz:=h2 d hr g hg
 have ho2:=ho (eV fmt 1 d) (by rw[sG];exact List.mem_map.2 ⟨d,hr,rfl⟩) (bc fmt 1 g).1 (List.mem_map.2 ⟨g,hg,rfl⟩)
 rw[(uI hz).2.2] at ho2
 refine⟨fun h0=>?_,ho2.1,ho2.2⟩
 rcases mR hz with⟨e0,_⟩ | ⟨_,ht,_⟩
 ·exact absurd e0 h0
 ·obtain⟨c,hv,_⟩:=jt hf (.inl rfl) ht
  have:=(cZ hf hv).2
  omega
theorem Hp {fmt:Int}{l:List ba}{d:ba}(h:d∈rM fmt l):d∈l:=by
 unfold rM at h
 split at h
 ·exact h
 ·rcases List.mem_append.1 h with h | h
  ·exact(gq h).1
  ·exact(gq h).1
end
section
open Go.RowKit Go.Deep
theorem Hq (A:Option Addr)(c q:Nat)(l:List aB)(a:aA)(w:World)(hG:Gl w)(hs:mT w A l)(ha:kX a)(h0:w.cell? ⟨q,0,none⟩=some (.slice A l.length c)):
  Calls Tryz.prog 35 #[a.val,.pointer (some ⟨q,0,none⟩)] w fun e w'=>e=.returned (.bool (iD 1 (l.map aB.plain) a))∧Below w.heap.size w w':=by
 have HA:=ae fun W hb=>ja 1 (.inl rfl) A c l a W (hG.below hb) (hs.below hb) ha
 generalize iD 1 (l.map aB.plain) a=R at *
 have hq:=World.block_lt_of_cell? _ _ h0
 simp only at hq
 obtain⟨nm,op,ver⟩:=a
 unfold aA.val at HA ⊢
 simp only at HA ⊢
 clear hG hs ha
 generalize l.length=n at *
 have B1:Hid (Below w.heap.size w (w.alloc (.cells #[.string nm,.int .i64 op,.string ver] 53))):=bR.alloc lr _
 go_enter Tryz.func35,Tryz.ntmps35
 go_wp2_with fail
 refine(HA.out _ B1.out).mono ?_;rintro e w2 ⟨rfl,hb2⟩
 have B2:=ae (ah B1.out hb2)
 clear hb2
 go_wp2_with fail
 go_ret
 exact⟨rfl,B2.out⟩
theorem QW (set:List bW)(ds:List aq):df 1 set (ds.map aq.pl)=ds.all fun d=>po 1 set d.pl:=by unfold df;rw[oj]
theorem JX (A:Option Addr)(c:Nat)(l:List aB)(B:Option Addr)(d:Nat)(ds:List aq)(w:World)(hG:Gl w)(hs:mT w A l)(hd:eW w B ds)(hl:ds.length≤1000000)(hz:∀ d∈ds,d.alts.length≤1000000∧∀ g∈d.alts,kX g):
  Calls Tryz.prog 17 #[.slice A l.length c,.slice B ds.length d] w fun e w'=>e=.returned (.bool (df 1 (l.map aB.plain) (ds.map aq.pl)))∧Below w.heap.size w w':=by
 rw[QW]
 have HG:=ae hG;have HS:=ae hs;have HD:=ae hd;have HZ:=ae hz
 obtain⟨W1,hW1⟩:∃ W1,w.alloc (.cells #[.slice A l.length c] 36)=W1:=⟨_,rfl⟩
 have B1:Hid (Below w.heap.size w W1):=by rw[←hW1];exact bR.alloc lr _
 have K1:Hid (aF W1 w.heap.size [.slice A l.length c]):=by show aF _ _ _;rw[←hW1];exact aF.new w [.slice A l.length c] _
 have CF:=ae fun (x:aq) (hx:x∈ds) W (hb:Below W1.heap.size W1 W)=>qN 35 (.pointer (some ⟨w.heap.size,0,none⟩)) (iD 1 (l.map aB.plain)) x.aa x.ac x.alts W (((HD.out.all x hx).below B1.out).below hb) (HZ.out x hx).1 Tryz.call35
  (ae fun g hg W' hb'=>Hq A c w.heap.size l g W' (HG.out.below (ah B1.out (ah hb hb'))) (HS.out.below (ah B1.out (ah hb hb'))) ((HZ.out x hx).2 g hg) ((K1.out.below (ah hb hb')).cell 0 _ rfl))
 have a0:=K1.out.cell 0 _ rfl
 have HW1:=ae hW1
 clear hW1 hG hs hd hz
 generalize l.length=n at *
 go_enter Tryz.func17,Tryz.ntmps17
 go_upto_region 1 with(fail)
 rw[HW1.out]
 clear a0
 go_wp2_with fail
 go_loopw [11] (fun i wr=>∃ k:Nat,k≤ds.length∧i=.int .i64 k∧Hid ((ds.take k).all (fun d=>po 1 (l.map aB.plain) d.pl)=true)∧Hid (Below W1.heap.size W1 wr)) (fun i _=>ds.length-(intOf i).toNat)
 case atStart=>exact⟨0,z0,rfl,by simp[Hid],bR⟩
 case round=>
  obtain⟨k,hk,rfl,HN,HB⟩:=hrel
  by_cases hlt:k<ds.length
  ·obtain⟨x,hx⟩:∃ x,ds[k]?=some x:=⟨_,gG hlt⟩
   obtain⟨b,off,hA,he⟩:=((HD.out.row.below B1.out).below HB.out).elem fI k x hx
   have e0:=he 0 _ rfl
   have e1:=he 1 _ rfl
   simp only[Nat.add_zero] at e0
   have hix:=fun W=>aH (T:=22) (E:=33) (sz:=2) (c:=d) Tryz.underlying22 rfl Tryz.sizeOf33 hA hlt W
   have HX:=ae hx
   have CG:=ae (CF.out x (gM hx))
   obtain⟨r,hr⟩:∃ r,x.alts.any (iD 1 (l.map aB.plain))=r:=⟨_,rfl⟩
   rw[hr] at CG
   have GV:Hid (po 1 (l.map aB.plain) x.pl=(r != x.bar)):=by show _=_;unfold po aq.pl;simp only;rw[hr]
   clear hx hA he hr
   generalize x.alts.length=xl at *
   generalize x.aa=xa at *
   generalize x.ac=xc at *
   generalize x.bar=xb at *
   obtain⟨W2,hW2⟩:∃ W2,wr.alloc (.cells #[.bool xb,.slice xa xl xc] 33)=W2:=⟨_,rfl⟩
   have B12:Hid (Below wr.heap.size wr W2):=by rw[←hW2];exact bR.alloc lr _
   have K2:Hid (aF W2 wr.heap.size [.bool xb,.slice xa xl xc]):=by show aF _ _ _;rw[←hW2];exact aF.new wr [.bool xb,.slice xa xl xc] _
   have k0:=K2.out.cell 0 _ rfl
   have k1:=K2.out.cell 1 _ rfl
   have bl2:wr.heap.size<W2.heap.size:=K2.out.sz
   have HW2:=ae hW2
   have B2:=ae (ah HB.out B12.out)
   clear hW2 B12 K2
   go_upto_region 5 with(fail)
   rw[HW2.out]
   clear HW2 e0 e1 hix
   go_cut [21] (fun s wx=>s=.bool (r==xb)∧Hid (Below W1.heap.size W1 wx))
   case first=>
    go_region_held3 (fun w'=>w'.cell? ⟨wr.heap.size,0,none⟩=some (.bool xb)∧w'.cell? ⟨wr.heap.size,1,none⟩=some (.slice xa xl xc))
     (first
       | go_keep
       | exact⟨(hb4.cell (p:=⟨_,_,none⟩) bl2).trans k0,(hb4.cell (p:=⟨_,_,none⟩) bl2).trans k1⟩)
     (first
       | (go_at_call 29;refine(CG.out _ (BS B2.out)).mono ?_;rintro e w4 ⟨rfl,hb4⟩))
    all_goals
     have HB4:Hid (Below W1.heap.size W1 w4):=ah (BS B2.out) hb4
     go_wp2_with fail
     go_meet
     exact⟨rfl,HB4⟩
   case rest=>
    obtain⟨rfl,HB4⟩:=hcut
    by_cases hq:r=xb
    ·have E:Hid (ds.all (fun d=>po 1 (l.map aB.plain) d.pl)=false):=Eg (gM HX.out) (by rw[GV.out,hq];simp)
     have B9:=ae (ah B1.out HB4.out)
     cases xb<;>cases r
     all_goals first
      | (exfalso;revert hq;decide)
      | (clear hq
         go_wp2_with fail
         go_ret
         exact⟨am E.out.symm,B9.out⟩)
    ·have GT:Hid ((ds.take (k+1)).all (fun d=>po 1 (l.map aB.plain) d.pl)=true):=oX HN.out HX.out (by rw[GV.out];simpa [bne] using hq)
     cases xb<;>cases r
     all_goals first
      | (exfalso;revert hq;decide)
      | (clear hq
         go_wp2_with fail
         go_roundw
         case rel=>exact⟨k+1,by omega,by go_num,GT,HB4⟩
         case measure=>simp[intOf];omega)
  ·have E:Hid (ds.all (fun d=>po 1 (l.map aB.plain) d.pl)=true):=vG HN.out hlt
   have B9:=ae (ah B1.out HB.out)
   go_wp2_with fail
   go_ret
   exact⟨am E.out.symm,B9.out⟩
theorem ol (A:Option Addr)(c:Nat)(l:List BA)(w:World)(hr:Rd w 1 A l.length (strCells l))(ho:∀ s∈l,s.size≤9223372036854775807)(hl:l.length≤9223372036854775807):
  Calls Tryz.prog 15 #[.slice A l.length c] w (tM (l.length≤20∧∀ s∈l,s.size≤1000) w):=by
 have HR:=ae hr;have HO:=ae ho
 clear hr ho
 by_cases hc:20<l.length
 ·have d1:decide ((20:Int)<l.length)=true:=dT (by omega)
  go_enter Tryz.func15,Tryz.ntmps15
  go_wp2_with fail
  go_ret
  exact iV bR
 have hle:l.length≤20:=by omega
 have d1:decide ((20:Int)<l.length)=false:=dF (by omega)
 go_enter Tryz.func15,Tryz.ntmps15
 go_wp2_with fail
 go_loop [3] (fun i=>∃ k:Nat,k≤l.length∧i=.int .i64 k∧Hid (∀ s∈l.take k,s.size≤1000)) (fun i=>l.length-(intOf i).toNat)
 case atStart=>exact⟨0,z0,rfl,by intro g hg;simp at hg⟩
 case round=>
  obtain⟨k,hk,rfl,HT⟩:=hrel
  by_cases hlt:k<l.length
  ·obtain⟨s,hx⟩:∃ s,l[k]?=some s:=⟨_,gG hlt⟩
   obtain⟨b,off,hA,he⟩:=HR.out.2 (by omega)
   have e0:=he k (.string s) (by unfold strCells;rw[List.getElem?_map,hx];rfl)
   have hix:=fun W=>aH (T:=25) (E:=9) (sz:=1) (c:=c) Tryz.underlying25 rfl Tryz.sizeOf9 hA hlt W
   simp only[Nat.mul_one] at hix
   have z1:=HO.out s (gM hx)
   have HX:=ae hx
   clear hx hA he
   by_cases h1:1000<s.size
   ·have q1:decide ((1000:Int)<s.size)=true:=dT (by omega)
    go_wp2_with fail
    go_ret
    exact iV bR
   have q1:decide ((1000:Int)<s.size)=false:=dF (by omega)
   have HN:Hid (∀ s∈l.take (k+1),s.size≤1000):=yO HT.out HX.out (by omega)
   clear h1
   go_wp2_with fail
   go_round
   case rel=>exact⟨k+1,by omega,by go_num,HN⟩
   case measure=>simp[intOf];omega
  ·have HN:Hid (∀ s∈l,s.size≤1000):=by have:=HT.out;rwa [tL (by omega)] at this
   go_wp2_with fail
   go_ret
   first
    | exact nV HN.out bR
    | exact nV ⟨hle,HN.out⟩ bR
end
section
open Go.RowKit
theorem Ld:bX 2 false (bl N7)=(Qm,0):=by kernel_rfl
theorem QX:df 2 [JK.plain] (og 2 false ([N7].map bl))=true:=by kernel_rfl
theorem US:Cp 2 false (bl N7):=by
 refine⟨by rw[Ld],fun d hd g hg=>?_⟩
 rw[Ld] at hd
 obtain rfl:=List.mem_singleton.1 hd
 simp only[List.mem_cons,List.not_mem_nil,or_false] at hg
 rcases hg with rfl | rfl
 ·exact⟨fun _=>by decide,by decide,by decide⟩
 ·exact⟨fun _=>by decide,by decide,by decide⟩
theorem NV (A:Option Addr)(c:Nat)(N:Option Addr)(nc:Nat)(w:World)(hG:NY w)(hs:kT w A JK)(hn:Rd w 1 N 1 (strCells [N7])):
  Calls Tryz.prog 16 #[.int .i64 2,.slice A 1 c,.slice N 1 nc,.bool false] w fun e w'=>e=.returned (.tuple #[.bool true,.int .i64 0])∧Below w.heap.size w w':=by
 have hz:mT w A [JK]:=by
  refine⟨by simpa using hs.row,fun x hx=>?_,by simp⟩
  obtain rfl:=List.mem_singleton.1 hx
  exact⟨⟨rfl,fun h=>by simp[JK] at h⟩,by decide,by decide,fun g hg=>by simp[JK] at hg⟩
 have:=kY 2 (.inr (.inl rfl)) A c [JK] N nc [N7] false w hG hz hn (by simp) (fun s hs=>by rw[List.mem_singleton.1 hs];decide) (fun s hs=>by rw[List.mem_singleton.1 hs];exact US)
 rw[show[JK].map aB.plain=[JK.plain] from rfl,QX] at this
 exact this
theorem Ei (w:World)(hG:En w):Calls Tryz.prog 6 #[] w fun e w'=>e=.returned (.bool true)∧Below w.heap.size w w':=by
 have HG:=ae hG
 clear hG
 obtain⟨W1,hW1⟩:∃ W1,w.alloc (.cells #[.string ⟨#[97,97,32,40,62,61,32,49,46,48,45,49,41,32,124,32,98,98]⟩] 9)=W1:=⟨_,rfl⟩
 have B1:Hid (Below w.heap.size w W1):=by rw[←hW1];exact bR.alloc lr _
 have R1:Hid (Rd W1 1 (some ⟨w.heap.size,0,none⟩) 1 (strCells [QZ])):=by
  show Rd _ _ _ _ _
  rw[←hW1]
  exact DK w [.string QZ] 9 1 1 rfl
 have FR:=ae (KC (some ⟨w.heap.size,0,none⟩) 1 W1 (HG.out.below B1.out) R1.out)
 go_enter Tryz.func6,Tryz.ntmps6
 go_wp2_with fail
 clear hW1
 refine FR.out.mono ?_;rintro e w2 ⟨A1,c1,ds,rfl,hb2,hd,hp⟩
 have B2:=ae (ah B1.out hb2)
 have HD:=ae hd;have HP:=ae hp
 clear hb2 hd hp FR R1 B1
 go_wp2_with fail
 refine(Qu A1 c1 ds w2 (HG.out.below B2.out) HD.out HP.out).mono ?_;rintro e w3 ⟨N,nc,M,mc,rfl,hb3,hn⟩
 have B3:=ae (ah B2.out hb3)
 have HN:=ae hn
 have HD3:=ae (HD.out.below hb3)
 clear hb3 hn
 go_wp2_with fail
 refine(Qv A1 c1 ds w3 (HG.out.below B3.out) HD3.out HP.out).mono ?_;rintro e w4 ⟨N2,nc2,M2,mc2,rfl,hb4⟩
 have B4:=ae (ah B3.out hb4)
 have HN4:=ae (HN.out.below hb4)
 clear hb4
 obtain⟨W5,hW5⟩:∃ W5,w4.alloc (.cells #[.string ⟨#[97,97]⟩,.string ⟨#[49,46,48,45,49]⟩,.slice none 0 0] 48)=W5:=⟨_,rfl⟩
 have B45:Hid (Below w4.heap.size w4 W5):=by rw[←hW5];exact bR.alloc lr _
 have B5:=ae (ah B4.out B45.out)
 have R5:Hid (kT W5 (some ⟨w4.heap.size,0,none⟩) JK):=by
  show kT _ _ _
  rw[←hW5]
  exact⟨DK w4 JK.cells 48 3 1 rfl⟩
 have HN5:=ae (HN4.out.below B45.out)
 go_wp2_with fail
 clear hW5
 refine(NV (some ⟨w4.heap.size,0,none⟩) 1 N nc W5 (HG.out.below B5.out).e R5.out HN5.out).mono ?_;rintro e w6 ⟨rfl,hb6⟩
 have B6:=ae (ah B5.out hb6)
 have HN6:=HN5.out.below hb6
 clear hb6
 obtain⟨b,off,hA,he⟩:=HN6.2 (by omega)
 have e0:=he 0 _ rfl
 unfold N7 at e0
 simp only[Nat.add_zero] at e0
 have hix:∀ W,(Instr.indexAt 25 (.slice N 1 nc) (.int .i64 0)).run Tryz.prog W=.ok (.pointer (some ⟨b,off,none⟩)) W:=fun W=>by
  have:=aH (T:=25) (E:=9) (sz:=1) (n:=1) (k:=0) (c:=nc) Tryz.underlying25 rfl Tryz.sizeOf9 hA (by omega) W
  simpa using this
 clear hA he HN6
 go_wp2_with fail
 go_ret
 exact⟨rfl,B6.out⟩
theorem JY {w:World}{A:Option Addr}{l:List aB}(h:kF w A l)(h0:l.length≤30)(hl:∀ x∈l,qK x):mT w A l:=
 ⟨h.row,fun x hx=>⟨h.all x hx,by have:=(hl x hx).2.1;omega,by have:=(hl x hx).2.2.1;omega,fun g hg=>⟨by have:=((hl x hx).2.2.2 g hg).2;omega⟩⟩,by omega⟩
theorem zj {w:World}{A:Option Addr}{l o:List aB}{a b:Int}(h:kF w A o)(h0:l.length≤30)(hl:∀ x∈l,qK x)(he:o.map aB.plain=(l.map aB.plain).map (dG a b)):mT w A o:=by
 have hlen:o.length=l.length:=by have:=congrArg List.length he;simpa using this
 have key:∀ x∈o,∃ y∈l,x.plain=dG a b y.plain:=by
  intro x hx
  have hm:x.plain∈(l.map aB.plain).map (dG a b):=by rw[←he];exact List.mem_map.2 ⟨x,hx,rfl⟩
  obtain⟨z,hz,hzx⟩:=List.mem_map.1 hm
  obtain⟨y,hy,rfl⟩:=List.mem_map.1 hz
  exact⟨y,hy,hzx.symm⟩
 refine⟨h.row,fun x hx=>?_,by omega⟩
 obtain⟨y,hy,e⟩:=key x hx
 have e1:x.ver=⟨(trans a b y.ver).1.toArray⟩:=congrArg bW.ver e
 have e2:x.gives=y.gives.map (iM a b):=congrArg bW.gives e
 have hs:∀ v:BA,(⟨(trans a b v).1.toArray⟩:BA).size≤64:=fun v=>by rw[Ci,bQ];exact ue
 refine⟨h.all x hx,by rw[e1];have:=hs y.ver;omega,by rw[e2,List.length_map];have:=(hl y hy).2.2.1;omega,fun g hg=>?_⟩
 rw[e2] at hg
 obtain⟨z,_,rfl⟩:=List.mem_map.1 hg
 exact⟨by have:=hs z.ver;show(⟨(trans a b z.ver).1.toArray⟩:BA).size≤_;omega⟩
theorem QY {l:List BA}{n:Nat}(h:∀ s∈l,s.size≤n):∀ s∈l.map bl,s.length≤n:=by
 intro s hs
 obtain⟨x,hx,rfl⟩:=List.mem_map.1 hs
 rw[af];exact h x hx
theorem Ej (a b:Int)(A:Option Addr)(c:Nat)(l:List aB)(N:Option Addr)(nc:Nat)(ns:List BA)(M:Option Addr)(mc:Nat)(bs:List BA)(w:World)(hG:En w)(hs:kF w A l)(hf:∀ x∈l,x.fits)(hl:l.length≤9223372036854775807)
  (hn:Rd w 1 N ns.length (strCells ns))(hnf:∀ s∈ns,s.size≤9223372036854775807)(hnl:ns.length≤9223372036854775807)(hm:Rd w 1 M bs.length (strCells bs))(hmf:∀ s∈bs,s.size≤9223372036854775807)(hml:bs.length≤9223372036854775807):
  Calls Tryz.prog 5 #[.int .i64 a,.int .i64 b,.slice A l.length c,.slice N ns.length nc,.slice M bs.length mc] w fun e w'=>e=.returned (.bool true)∧Below w.heap.size w w':=by
 obtain⟨i0,hi,hz0,hz1,hz2⟩:=info_parts kN
 have HG:=ae hG;have HS:=ae hs;have HF:=ae hf;have HL:=ae hl;have HN:=ae hn;have HM:=ae hm
 have L1:=ae fun W hb=>ol N nc ns W (HN.out.below hb) hnf hnl
 have L2:=ae fun W hb=>ol M mc bs W (HM.out.below hb) hmf hml
 clear hG hs hf hl hn hm hnf hnl hmf hml
 go_enter Tryz.func5,Tryz.ntmps5
 go_wp2_with fail
 refine(Ei _ HG.out).mono ?_;rintro e w1 ⟨rfl,hb1⟩
 have B1:=ae hb1;clear hb1
 go_wp2_with fail
 refine(sr A c l _ (HS.out.below B1.out) HF.out HL.out).mono ?_;rintro e w2 ⟨bb,rfl,hp,hb2⟩
 have B2:=ae (ah B1.out hb2);clear hb2
 have HP:=ae hp;clear hp
 cases bb
 ·go_wp2_with fail
  go_ret
  exact⟨rfl,B2.out⟩
 have LW:=ae (HP.out rfl)
 have FW:Hid (xF l):=KE LW.out.1 LW.out.2
 clear HP HF HL
 go_wp2_with fail
 refine(L1.out _ B2.out).mono ?_;rintro e w3 ⟨bb,rfl,hp,hb3⟩
 have B3:=ae (ah B2.out hb3);clear hb3
 have HP:=ae hp;clear hp
 cases bb
 ·go_wp2_with fail
  go_ret
  exact⟨rfl,B3.out⟩
 have LN:=ae (HP.out rfl)
 clear HP
 go_wp2_with fail
 refine(L2.out _ B3.out).mono ?_;rintro e w4 ⟨bb,rfl,hp,hb4⟩
 have B4:=ae (ah B3.out hb4);clear hb4
 have HP:=ae hp;clear hp
 cases bb
 ·go_wp2_with fail
  go_ret
  exact⟨rfl,B4.out⟩
 have LM:=ae (HP.out rfl)
 clear HP L1 L2
 go_wp2_with fail
 refine(mo a false N nc ns _ (HG.out.below B4.out) (HN.out.below B4.out) (by have:=LN.out.1;omega) (fun s hs=>by have:=LN.out.2 s hs;omega)).mono ?_;rintro e w5 ⟨X,xn,xc,xs,ex,rfl,hb5,hx⟩
 have B5:=ae (ah B4.out hb5)
 have XH:=ae hx
 clear hb5 hx
 go_wp2_with fail
 refine(mo a true M mc bs _ (HG.out.below B5.out) (HM.out.below B5.out) (by have:=LM.out.1;omega) (fun s hs=>by have:=LM.out.2 s hs;omega)).mono ?_;rintro e w6 ⟨Y,yn,yc,ys,ey,rfl,hb6,hy⟩
 have B56:=ae hb6
 have B6:=ae (ah B5.out hb6)
 have YH:=ae hy
 clear hb6 hy
 go_wp2_with fail
 refine(qL a b A c l _ (HG.out.below B6.out).p (HS.out.below B6.out) FW.out).mono ?_;rintro e w7 ⟨A1,c1,o1,rfl,hs1,hp1,hb7⟩
 have B67:=ae hb7
 have B7:=ae (ah B6.out hb7)
 have S1:=ae hs1;have P1:=ae hp1
 clear hb7 hs1 hp1
 go_wp2_with fail
 refine(qL a 1 A c l _ (HG.out.below B7.out).p (HS.out.below B7.out) FW.out).mono ?_;rintro e w8 ⟨A2,c2,o2,rfl,hs2,hp2,hb8⟩
 have B78:=ae hb8
 have B8:=ae (ah B7.out hb8)
 have S2:=ae hs2;have P2:=ae hp2
 clear hb8 hs2 hp2
 obtain⟨em,hem⟩:∃ e,dC a b (l.map aB.plain)=e:=⟨_,rfl⟩
 obtain⟨ep,hep⟩:∃ e,dC a 1 (l.map aB.plain)=e:=⟨_,rfl⟩
 rw[hem,hep]
 have HEM:=ae hem;have HEP:=ae hep
 clear hem hep
 by_cases hx0:ek a false (ns.map bl)=0
 rotate_left
 ·have hx:=XH.out
  rw[if_neg hx0] at hx
  have q:(ex != 0)=true:=by simpa [bne] using hx.1
  clear hx hx0
  go_wp2_with fail
  go_ret
  exact⟨rfl,B8.out⟩
 have hx:=XH.out
 rw[if_pos hx0] at hx
 obtain⟨rfl,hx1,hx2⟩:=hx
 have FX:=ae hx0;have XP:=ae hx1;have XO:=ae hx2
 clear hx0 hx1 hx2 XH
 by_cases hy0:ek a true (bs.map bl)=0
 rotate_left
 ·have hy:=YH.out
  rw[if_neg hy0] at hy
  have q:(ey != 0)=true:=by simpa [bne] using hy.1
  clear hy hy0
  go_wp2_with fail
  go_ret
  exact⟨rfl,B8.out⟩
 have hy:=YH.out
 rw[if_pos hy0] at hy
 obtain⟨rfl,hy1,hy2⟩:=hy
 have FY:=ae hy0;have YP:=ae hy1;have YO:=ae hy2
 clear hy0 hy1 hy2 YH
 by_cases hm0:em=0
 rotate_left
 ·have q:(em != 0)=true:=by simpa [bne] using hm0
  clear hm0
  go_wp2_with fail
  go_ret
  exact⟨rfl,B8.out⟩
 subst hm0
 by_cases hp0:ep=0
 rotate_left
 ·have q:(ep != 0)=true:=by simpa [bne] using hp0
  clear hp0
  go_wp2_with fail
  go_ret
  exact⟨rfl,B8.out⟩
 subst hp0
 have IFA:Hid (dk a∧dk b):=⟨(kW HEM.out).1,(kW HEM.out).2.1⟩
 have hxn:=XO.out.len;have hyn:=YO.out.len
 have fx:=Ho FX.out (QY fun s hs=>Nat.le_trans (LN.out.2 s hs) (by omega))
 have fy:=Ho FY.out (QY fun s hs=>Nat.le_trans (LM.out.2 s hs) (by omega))
 have XO8:=ae (XO.out.ok.below (ah B56.out (ah B67.out B78.out)))
 have YO8:=ae (YO.out.ok.below (ah B67.out B78.out))
 have HXY:Hid ((xs++ys).map aq.pl=cq a false (ns.map bl)++cq a true (bs.map bl)):=by show _=_;rw[List.map_append,XP.out,YP.out]
 have hxl:xs.length≤64:=by have:=congrArg List.length XP.out;rw[List.length_map] at this;have:=fx.1;omega
 have hyl:ys.length≤64:=by have:=congrArg List.length YP.out;rw[List.length_map] at this;have:=fy.1;omega
 have DF:Hid (oR (xs++ys)):=by
  have key:∀ d∈xs++ys,d.alts.length≤64∧∀ g∈d.alts,g.nm.size≤64∧g.ver.size≤64:=by
   intro d hd
   have hm:d.pl∈cq a false (ns.map bl)++cq a true (bs.map bl):=by rw[←HXY.out];exact List.mem_map.2 ⟨d,hd,rfl⟩
   rcases List.mem_append.1 hm with hm | hm
   ·exact fx.2 _ hm
   ·exact fy.2 _ hm
  exact⟨by rw[List.length_append];omega,fun d hd=>by have:=(key d hd).1;omega,fun d hd g hg=>by have:=((key d hd).2 g hg).1;omega,fun d hd g hg=>by have:=((key d hd).2 g hg).2;omega⟩
 clear XO YO B56 fx fy
 have RX:=ae ((XO8.out.row.below ((Below.refl w8.heap.size w8).alloc lr (.cells #[] 33))).reads (by omega))
 have HONX:=ae (oQ xs)
 have HONY:=ae (oQ ys)
 have OW:Hid ((w8.alloc (.cells #[] 33)).ownsRow w8.heap.size 33 2 (.slice (some ⟨w8.heap.size,0,none⟩) 0 0) 0 []):=World.ownsRow_lit w8 #[] 0 lr (by simp[maxLen]) rfl
 rw[hxn] at RX
 go_wp2_with (
  at_builtin
  first
   | (refine ak _ rfl _ _ _ rfl w8.heap.size 33 i0 _ 2 32 Tryz.underlying22 hi hz0 hz1 hz2 rfl (by omega) (.slice (some ⟨w8.heap.size,0,none⟩) 0 0) 0 _ rfl OW.out _ X xn xc _ rfl RX.out HONX.out (by simp only[maxLen];omega) (by omega) (by simp) ?_
      intro v1 w9 hown1 hg1 hat1
      rw[Nat.zero_add] at hown1
      obtain⟨O1,d1,rfl⟩:=aG hown1
      have B9:Hid (Below w8.heap.size w8 w9):=((Below.refl w8.heap.size w8).alloc lr (.cells #[] 33)).grown hg1 (by simp) (fun j hj=>(OW.out.lt j hj).1)
      have RY:=ae ((YO8.out.row.below B9.out).reads (by omega))
      rw[hyn] at RY
      have O9:=ae hown1
      rw[List.nil_append] at O9
      clear hown1 hg1 hat1 RX OW)
   | (refine ak _ rfl _ _ _ rfl w8.heap.size 33 i0 _ 2 32 Tryz.underlying22 hi hz0 hz1 hz2 rfl (by omega) (.slice O1 xn d1) xn _ rfl O9.out _ Y yn yc _ rfl RY.out HONY.out (by simp only[maxLen];omega) (by omega) (by have:=B9.out.size;omega) ?_
      intro v2 w10 hown2 hg2 hat2
      obtain⟨O2,d2,rfl⟩:=aG hown2
      have OO2:=ae hown2
      have GG2:=ae hg2
      clear hown2 hg2 hat2))
 have B10:Hid (Below w8.heap.size w8 w10):=B9.out.grown GG2.out B9.out.size (fun j hj=>(O9.out.lt j hj).1)
 have DX:Hid (eW w10 O2 (xs++ys)):=by
  refine⟨?_,fun d hd=>?_⟩
  ·rw[List.length_append,List.flatMap_append,hxn,hyn]
   exact bA OO2.out
  ·rcases List.mem_append.1 hd with hd | hd
   ·exact(XO8.out.all d hd).below B10.out
   ·exact(YO8.out.all d hd).below B10.out
 have BW:=ae (ah B8.out B10.out)
 have S1W:=ae (S1.out.below (ah B78.out B10.out))
 have S2W:=ae (S2.out.below B10.out)
 clear OO2 GG2 RY O9 HONX HONY XO8 YO8 B9 S1 S2 B67 B78
 have TO:Hid (Calls Tryz.prog 8 #[.int .i64 b,.slice O2 (xn+yn) d2] w10 (DH b ((xs++ys).map aq.pl) w10)):=by
  have:=vB b O2 d2 (xs++ys) w10 (HG.out.below BW.out) DX.out DF.out
  rw[List.length_append,hxn,hyn] at this
  exact this
 go_wp2_with fail
 refine TO.out.mono ?_;rintro e w11 ⟨T1,t1,T2,t2,us,vs,rfl,hb11,h1,h2,h3,h4⟩
 rw[HXY.out] at h3 h4 ⊢
 have B11:=ae (ah BW.out hb11)
 have R1:=ae h1;have R2:=ae h2
 have DX11:=ae (DX.out.below hb11)
 have S1X:=ae (S1W.out.below hb11);have S2X:=ae (S2W.out.below hb11)
 clear hb11 h1 h2 TO DX S1W S2W
 obtain⟨et,het⟩:∃ e,rK b (cq a false (ns.map bl)++cq a true (bs.map bl))=e:=⟨_,rfl⟩
 rw[het]
 by_cases ht0:et=0
 rotate_left
 ·have q:(et != 0)=true:=by simpa [bne] using ht0
  clear ht0 h3 h4 het
  go_wp2_with fail
  go_ret
  exact⟨rfl,B11.out⟩
 subst ht0
 obtain⟨k1,k2⟩:=h3 het
 have SL:=QS FX.out FY.out HEM.out HEP.out het
 have OPS:=Uu het
 obtain⟨f1,f2,f3⟩:=xB het
 have sh1:=ss het false
 have sh2:=ss het true
 have ops1:∀ d∈cq a false (ns.map bl),∀ g∈d.alts,0≤g.op∧g.op≤5:=fun d hd=>OPS d (List.mem_append_left _ hd)
 have ops2:∀ d∈cq a true (bs.map bl),∀ g∈d.alts,0≤g.op∧g.op≤5:=fun d hd=>OPS d (List.mem_append_right _ hd)
 have ops3:∀ d∈cq b false (uW b false (cq a false (ns.map bl)++cq a true (bs.map bl))),∀ g∈d.alts,0≤g.op∧g.op≤5:=fun d hd=>OPS d (Hp (fmt:=b) (by rw[←f3];exact List.mem_append_left _ hd))
 have ops4:∀ d∈cq b true (uW b true (cq a false (ns.map bl)++cq a true (bs.map bl))),∀ g∈d.alts,0≤g.op∧g.op≤5:=fun d hd=>OPS d (Hp (fmt:=b) (by rw[←f3];exact List.mem_append_right _ hd))
 rw[←k1] at f1 sh1 ops3 SL
 rw[←k2] at f2 sh2 ops4 SL
 rw[mS HEM.out] at P1 SL
 rw[mS HEP.out] at P2 SL
 rw[←P1.out,←P2.out,←HXY.out] at SL
 have U1:=Eh FX.out ops1
 have U2:=Eh FY.out ops2
 have U3:=Eh f1 ops3
 have U4:=Eh f2 ops4
 have mb:∀ {f:Int} {br:Bool} {ts:List BA},(∀ s∈ts.map bl,Cp f br s)→∀ s∈ts,Cp f br (bl s):=fun h s hs=>h _ (List.mem_map.2 ⟨s,hs,rfl⟩)
 have zs:∀ {ts:List BA},(∀ t∈ts.map bl,t.length≤1000000)→∀ s∈ts,s.size≤1000000:=fun h s hs=>by have:=h _ (List.mem_map.2 ⟨s,hs,rfl⟩);rw[af] at this;exact this
 have ZS:=ae fun W hb=>JY (HS.out.below (w':=W) hb) LW.out.1 LW.out.2
 have Z1:=ae fun W hb=>zj (a:=a) (b:=b) (S1X.out.below (w':=W) hb) LW.out.1 LW.out.2 P1.out
 have Z2:=ae fun W hb=>zj (a:=a) (b:=1) (S2X.out.below (w':=W) hb) LW.out.1 LW.out.2 P2.out
 have H1:=ae fun W (hb:Below w11.heap.size w11 W)=>kY a IFA.out.1 A c l N nc ns false W (HG.out.below (ah B11.out hb)).e (ZS.out _ (ah B11.out hb)) (HN.out.below (ah B11.out hb)) (by have:=LN.out.1;omega) (fun s hs=>by have:=LN.out.2 s hs;omega) (mb U1)
 have H2:=ae fun W (hb:Below w11.heap.size w11 W)=>kY a IFA.out.1 A c l M mc bs true W (HG.out.below (ah B11.out hb)).e (ZS.out _ (ah B11.out hb)) (HM.out.below (ah B11.out hb)) (by have:=LM.out.1;omega) (fun s hs=>by have:=LM.out.2 s hs;omega) (mb U2)
 have H3:=ae fun W (hb:Below w11.heap.size w11 W)=>kY b IFA.out.2 A1 c1 o1 T1 t1 us false W (HG.out.below (ah B11.out hb)).e (Z1.out _ hb) (R1.out.below hb) (by have:=sh1.1;rw[List.length_map] at this;omega) (zs sh1.2) (mb U3)
 have H4:=ae fun W (hb:Below w11.heap.size w11 W)=>kY b IFA.out.2 A1 c1 o1 T2 t2 vs true W (HG.out.below (ah B11.out hb)).e (Z1.out _ hb) (R2.out.below hb) (by have:=sh2.1;rw[List.length_map] at this;omega) (zs sh2.2) (mb U4)
 have H5:Hid (∀ W,Below w11.heap.size w11 W→Calls Tryz.prog 17 #[.slice A2 o2.length c2,.slice O2 (xn+yn) d2] W fun e w'=>e=.returned (.bool (df 1 (o2.map aB.plain) ((xs++ys).map aq.pl)))∧Below W.heap.size W w'):=by
  intro W hb
  have:=JX A2 c2 o2 O2 d2 (xs++ys) W (HG.out.below (ah B11.out hb)).e.1 (Z2.out _ hb) (DX11.out.below hb) (by rw[List.length_append];omega) (fun d hd=>⟨by have:=DF.out.al d hd;omega,fun g hg=>by
   have ho:=OPS d.pl (by rw[←HXY.out];exact List.mem_map.2 ⟨d,hd,rfl⟩) g hg
   exact⟨fun _=>by have:=DF.out.ver d hd g hg;omega,ho.1,ho.2⟩⟩)
  rw[List.length_append,hxn,hyn] at this
  exact this
 obtain⟨E1,E2⟩:=SL
 generalize df a (l.map aB.plain) (og a false (ns.map bl))=p at *
 generalize df a (l.map aB.plain) (og a true (bs.map bl))=q at *
 generalize df b (o1.map aB.plain) (og b false (us.map bl))=r at *
 generalize df b (o1.map aB.plain) (og b true (vs.map bl))=s at *
 generalize df 1 (o2.map aB.plain) ((xs++ys).map aq.pl)=S at *
 have E1:=ae E1;have E2:=ae E2
 clear h3 h4 het k1 k2 OPS f1 f2 f3 sh1 sh2 ops1 ops2 ops3 ops4 U1 U2 U3 U4 mb zs ZS Z1 Z2 DX11 S1X S2X R1 R2 HN HM HS FW LW LN LM FX FY XP YP HXY DF P1 P2 IFA HEM HEP
 generalize xs.length=xl at *
 generalize ys.length=yl at *
 generalize o1.length=n1 at *
 generalize o2.length=n2 at *
 generalize l.length=nl at *
 generalize ns.length=nn at *
 generalize bs.length=bn at *
 generalize us.length=un at *
 generalize vs.length=vn at *
 go_wp2_with fail
 refine(H1.out _ bR).mono ?_;rintro e w12 ⟨rfl,hb12⟩
 have C12:=ae hb12;clear hb12
 go_wp2_with fail
 refine(H2.out _ C12.out).mono ?_;rintro e w13 ⟨rfl,hb13⟩
 have C13:=ae (ah C12.out hb13);clear hb13
 go_wp2_with fail
 refine(H3.out _ C13.out).mono ?_;rintro e w14 ⟨rfl,hb14⟩
 have C14:=ae (ah C13.out hb14);clear hb14
 go_wp2_with fail
 refine(H4.out _ C14.out).mono ?_;rintro e w15 ⟨rfl,hb15⟩
 have C15:=ae (ah C14.out hb15);clear hb15
 have H6:=ae (H5.out _ C15.out)
 clear H1 H2 H3 H4 H5 C12 C13 C14
 cases S
 ·cases p<;>cases q<;>cases r<;>cases s
  all_goals first
   | (exfalso;have h:=E1.out;revert h;decide)
   | (exfalso;have h:=E2.out;revert h;decide)
   | (go_wp2_with fail
      refine H6.out.mono ?_;rintro e w16 ⟨rfl,hb16⟩
      have C16:=ae (ah B11.out (ah C15.out hb16));clear hb16
      go_wp2_with fail
      go_ret
      exact⟨rfl,C16.out⟩)
 ·cases p<;>cases q<;>cases r<;>cases s
  all_goals first
   | (exfalso;have h:=E1.out;revert h;decide)
   | (exfalso;have h:=E2.out;revert h;decide)
   | (go_wp2_with fail
      refine H6.out.mono ?_;rintro e w16 ⟨rfl,hb16⟩
      have C16:=ae (ah B11.out (ah C15.out hb16));clear hb16
      go_wp2_with fail
      go_ret
      exact⟨rfl,C16.out⟩)
end
end Go.Proofs.YtkjdbpjglobbjaaGreatDoor
