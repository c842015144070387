/- A part of the proof of a law on dependencies in three formats. No condition. -/
import Derived.Test.YtkjdbpjglobbjaaGreatDoorE47
import Derived.Test.YtkjdbpjglobbjaaGreatDoorE69
set_option maxRecDepth 100000
set_option maxHeartbeats 20000000
set_option linter.unusedVariables false
set_option linter.unusedSimpArgs false
namespace Go.Proofs.YtkjdbpjglobbjaaGreatDoor
section
open Go.RowKit
structure NO (fmt:Int) (s:LU) (lo:Nat) (w:World) (t:pm):Prop where
 k1:fmt=1→∃ gs:List aW,eT s=some (gs.map aW.pl)∧eX w lo t.tA t.tn t.tc gs∧xM gs
 k2:fmt=2→dD s=some t.T.pl∧ce w lo none t.T∧t.T.cnt≤64
 k3:fmt=3→∃ L:List dR,eR s=some L∧L.length=t.tm∧w.ownsRow lo 86 4 (.slice t.tB t.tm t.td) t.tm (L.flatMap dR.cells)∧L.length≤64
theorem NO.below {fmt:Int}{s:LU}{lo:Nat}{w w':World}{t:pm}(h:NO fmt s lo w t)(hb:Below w.heap.size w w'):NO fmt s lo w' t:=by
 refine⟨fun hf=>?_,fun hf=>?_,fun hf=>?_⟩
 ·obtain⟨gs,h1,h2,h3⟩:=h.k1 hf
  exact⟨gs,h1,h2.below hb,h3⟩
 ·obtain⟨h1,h2,h3⟩:=h.k2 hf
  exact⟨h1,h2.low hb,h3⟩
 ·obtain⟨L,h1,h2,h3,h4⟩:=h.k3 hf
  exact⟨L,h1,h2,aR h3 hb,h4⟩
theorem zX.text {w:World}{lo n:Nat}{v:Value}{xs:List Value}(h:w.ownsRow lo 73 7 v n xs):zX w v.ownBlock:=by
 intro g cs fr e h2
 rcases h.2 with⟨hv,_⟩ | ⟨g',cap,cur,hv,_,hg,_⟩
 ·rw[hv] at e;simp[Value.ownBlock] at e
 ·rw[hv] at e;simp[Value.ownBlock] at e
  subst e
  rw[hg] at h2
  injection h2 with h2
  injection h2 with _ h2 _
  exact absurd h2 (by decide)
theorem NO.app {fmt:Int}{s:LU}{lo b n:Nat}{w w':World}{t:pm}{v:Value}{xs:List Value}(h:NO fmt s lo w t)(ho:w.ownsRow b 73 7 v n xs)(hg:w.grownBy w' v.ownBlock):NO fmt s lo w' t:=by
 refine⟨fun hf=>?_,fun hf=>?_,fun hf=>?_⟩
 ·obtain⟨gs,h1,h2,h3⟩:=h.k1 hf
  exact⟨gs,h1,⟨h2.len,h2.row.kept hg (gt h2.row ho (by decide)),fun g hgm=>⟨(h2.grp g hgm).row.kept hg (gt (h2.grp g hgm).row ho (by decide)),fun t ht=>World.ownsRow.kept ((h2.grp g hgm).archs t ht) hg (gt ((h2.grp g hgm).archs t ht) ho (by decide))⟩⟩,h3⟩
 ·obtain⟨h1,h2,h3⟩:=h.k2 hf
  exact⟨h1,h2.tame (.text ho) hg,h3⟩
 ·obtain⟨L,h1,h2,h3,h4⟩:=h.k3 hf
  exact⟨L,h1,h2,h3.kept hg (gt h3 ho (by decide)),h4⟩
def pm.val (t:pm):Value:=nQ t.tA t.tn t.tc t.T t.tB t.tm t.td
def lB (fmt:Int)(set:List bW)(bar:Bool)(s:LU):Bool:=(bX fmt bar s).1.all (po fmt set)
theorem Hk {α β:Type}(f:α→β)(p:β→Bool)(l:List α):(l.map f).any p=l.any fun x=>p (f x):=by rw[List.any_map];rfl
theorem oj {α β:Type}(f:α→β)(p:β→Bool)(l:List α):(l.map f).all p=l.all fun x=>p (f x):=by rw[List.all_map];rfl
def Cp (fmt:Int)(bar:Bool)(s:LU):Prop:=(bX fmt bar s).2=0∧∀ d∈(bX fmt bar s).1,∀ g∈d.alts,kX g
theorem JV (fmt:Int)(hf:dk fmt)(A:Option Addr)(c:Nat)(l:List aB)(t:pm)(s:LU)(bar:Bool)(lo:Nat)(w:World)(hG:Gl w)(hs:mT w A l)(hk:NO fmt s lo w t)(hu:Cp fmt bar s):
  Calls Tryz.prog 34 #[.int .i64 fmt,.slice A l.length c,t.val,.bool bar] w fun e w'=>e=.returned (.bool (lB fmt (l.map aB.plain) bar s))∧Below w.heap.size w w':=by
 obtain⟨h0,hu⟩:=hu
 unfold pm.val
 rcases hf with rfl | rfl | rfl
 ·obtain⟨gs,h1,h2,h3⟩:=hk.k1 rfl
  have e:=Jq (bar:=bar) h1
  have hb:∀ g∈gs.map aW.pl,rY bar g=false:=by
   intro g hg
   cases hbd:rY bar g
   ·rfl
   ·rw[e,oI hg hbd] at h0;cases h0
  have e2:=e.trans (Gh hb)
  have hat:∀ g∈gs,∀ x∈g.ts,kX (jg x):=by
   intro g hg x hx
   refine hu ⟨bar,g.pl.map mY⟩ ?_ (jg x) ?_
   ·rw[e2];exact List.mem_map.2 ⟨g.pl,List.mem_map.2 ⟨g,hg,rfl⟩,rfl⟩
   ·unfold aW.pl;rw[List.map_map];exact List.mem_map.2 ⟨x,hx,xP x⟩
  have hv:lB 1 (l.map aB.plain) bar s=gs.all (zh (l.map aB.plain) bar):=by
   unfold lB
   rw[e2]
   simp only
   rw[List.map_map,oj]
   refine sF fun g _=>?_
   unfold po zh
   simp only[Function.comp]
   unfold aW.pl
   rw[List.map_map,Hk]
   congr 1
  rw[hv,←h2.len]
  exact JT A c l t.tA t.tc t.T t.tB t.tm t.td gs bar w hG hs h2.ok (by have:=h3.few;omega) (fun g hg=>⟨by have:=h3.len g hg;omega,hat g hg⟩)
 ·obtain⟨h1,h2,h3⟩:=hk.k2 rfl
  have e:=Jr (bar:=bar) h1
  cases bar
  ·have hlf:(cC t.T).all lk=true:=by
    cases hbd:(cC t.T).all lk
    ·rw[e,se,hbd] at h0;exact absurd h0 (by simp)
    ·rfl
   have e2:bX 2 false s=((cC t.T).map fun p=>⟨false,(eM p).map cY⟩,0):=by rw[e,se,if_pos hlf]
   have hz:∀ p∈cC t.T,Cm p:=by
    intro p hp a ha
    have h4:=List.all_eq_true.1 hlf p hp
    unfold lk at h4
    refine⟨List.isEmpty_iff.1 (List.all_eq_true.1 h4 a ha),hu ⟨false,(eM p).map cY⟩ ?_ _ (List.mem_map.2 ⟨a,ha,rfl⟩)⟩
    rw[e2];exact List.mem_map.2 ⟨p,hp,rfl⟩
   refine(zi A c l t.tA t.tn t.tc t.T t.tB t.tm t.td false w hG hs h2.rd h3 hz).mono fun e' w' ⟨he,hb⟩=>⟨?_,hb⟩
   rw[he]
   congr 2
   unfold lB
   rw[e2]
   simp only
   rw[oj,Bool.bne_false]
   refine sF fun p _=>?_
   unfold po uH
   simp only
   rw[Hk,Bool.bne_false]
  ·have ho:bl t.T.op=[]:=by
    apply Classical.byContradiction
    intro h;rw[e,oO,if_neg h] at h0;cases h0
   have e2:bX 2 true s=([⟨true,[cY t.T]⟩],0):=by rw[e,oO,if_pos ho]
   have hpt:cC t.T=[t.T]:=by unfold cC;rw[if_neg (by rw[ho];decide)]
   have hal:eM t.T=[t.T]:=by unfold eM;rw[if_neg (by rw[ho];decide)]
   have hz:∀ p∈cC t.T,Cm p:=by
    intro p hp a ha
    rw[hpt] at hp
    obtain rfl:=List.mem_singleton.1 hp
    rw[hal] at ha
    obtain rfl:=List.mem_singleton.1 ha
    exact⟨ho,hu ⟨true,[cY t.T]⟩ (by rw[e2];simp) _ (by simp)⟩
   refine(zi A c l t.tA t.tn t.tc t.T t.tB t.tm t.td true w hG hs h2.rd h3 hz).mono fun e' w' ⟨he,hb⟩=>⟨?_,hb⟩
   rw[he]
   congr 2
   unfold lB uH po
   rw[e2,hpt]
   simp[hal]
 ·obtain⟨L,h1,h2,h3,h4⟩:=hk.k3 rfl
  have e:=Js (bar:=bar) h1
  have hb:∀ x∈L,zQ bar x=false:=by
   intro x hx
   cases hbd:zQ bar x
   ·rfl
   ·rw[e,tC hx hbd] at h0;cases h0
  have e2:=e.trans (Gj hb)
  have hat:∀ x∈L,kX (iA x):=by
   intro x hx
   refine hu ⟨bar||x.no,[iA x]⟩ ?_ _ (by simp)
   rw[e2];exact List.mem_map.2 ⟨x,hx,rfl⟩
  have hv:lB 3 (l.map aB.plain) bar s=L.all (sI (l.map aB.plain) bar):=by
   unfold lB
   rw[e2]
   simp only
   rw[oj]
   refine sF fun x _=>?_
   unfold po sI
   simp
  rw[hv,←h2]
  exact JU A c l t.tA t.tn t.tc t.T t.tB t.td L bar w hG hs (by rw[h2];exact bA h3) (by omega) hat
theorem NP (fmt:Int)(hf:dk fmt)(s:BA)(w:World)(hG:NY w)(hs:s.size≤1000000):Calls Tryz.prog 33 #[.int .i64 fmt,.string s] w (sf fmt (bl s) w):=by
 rcases hf with rfl | rfl | rfl
 ·exact yr s w hG.1 hs
 ·exact qH s w hG.1 hs
 ·exact yu s w hG hs
theorem NQ (fmt:Int)(hf:dk fmt)(bar:Bool)(s:BA)(w:World)(hG:NY w)(hs:s.size≤1000000)(ht:(bX fmt bar (bl s)).2=0):
  Calls Tryz.prog 33 #[.int .i64 fmt,.string s] w fun e w'=>∃ t:pm,e=.returned (.tuple #[t.val,.int .i64 0])∧Below w.heap.size w w'∧NO fmt (bl s) w.heap.size w' t:=by
 refine(NP fmt hf s w hG hs).mono fun e w' ⟨A,n,c,T,B,m,d,code,he,hb,h1,h2,h3,ho⟩=>?_
 rcases hf with rfl | rfl | rfl
 ·have k:=h1 rfl
  unfold UF at k
  cases hd:eT (bl s) with
  | none=>rw[Dz hd] at ht;cases ht
  | some L=>
   rw[hd] at k
   obtain⟨rfl,gs,hg,_,_,_,hw⟩:=k
   obtain⟨gs2,hg2,hO⟩:=ho.grp L rfl hd
   exact⟨⟨A,n,c,T,B,m,d⟩,he,hb,⟨fun _=>⟨gs2,by rw[hg2];exact hd,hO,xM.of (by rw[hg2];exact qB hd (by rw[af];omega))⟩,fun h=>absurd h (by decide),fun h=>absurd h (by decide)⟩⟩
 ·have k:=h2 rfl
  unfold Uv at k
  cases hd:dD (bl s) with
  | none=>rw[DA hd] at ht;cases ht
  | some t=>
   rw[hd] at k
   obtain⟨rfl,hp,_,hc,_⟩:=k
   exact⟨⟨A,n,c,T,B,m,d⟩,he,hb,⟨fun h=>absurd h (by decide),fun _=>⟨by rw[hp];exact hd,ho.rch t rfl hd,hc⟩,fun h=>absurd h (by decide)⟩⟩
 ·have k:=h3 rfl
  unfold UG at k
  cases hd:eR (bl s) with
  | none=>rw[DB hd] at ht;cases ht
  | some L=>
   rw[hd] at k
   obtain⟨rfl,hm,_,hl,_⟩:=k
   exact⟨⟨A,n,c,T,B,m,d⟩,he,hb,⟨fun h=>absurd h (by decide),fun h=>absurd h (by decide),fun _=>⟨L,hd,hm.symm,ho.wnt L rfl hd,hl⟩⟩⟩
def Hl (fmt:Int)(ts:List BA)(lo:Nat)(w:World)(xs:List pm):Prop:=∀ (j:Nat) t s,xs[j]?=some t→ts[j]?=some s→NO fmt (bl s) lo w t
theorem Hl.snoc {fmt:Int}{ts:List BA}{lo k:Nat}{w:World}{xs:List pm}{t:pm}{s:BA}(h:Hl fmt ts lo w xs)(hl:xs.length=k)(hs:ts[k]?=some s)(ht:NO fmt (bl s) lo w t):Hl fmt ts lo w (xs++[t]):=by
 intro j t' s' hj hj2
 by_cases hjk:j<xs.length
 ·rw[List.getElem?_append_left hjk] at hj;exact h j t' s' hj hj2
 ·have:j=k:=by
   have h1:=(gS hj).1
   simp at h1;omega
  subst this
  rw[hs] at hj2;injection hj2 with hj2;subst hj2
  rw[List.getElem?_append_right (by omega),hl,Nat.sub_self] at hj
  simp at hj;subst hj;exact ht
theorem NO.base {fmt:Int}{s:LU}{lo lo':Nat}{w:World}{t:pm}(h:NO fmt s lo w t)(hl:lo'≤lo):NO fmt s lo' w t:=by
 refine⟨fun hf=>?_,fun hf=>?_,fun hf=>?_⟩
 ·obtain⟨gs,h1,h2,h3⟩:=h.k1 hf
  exact⟨gs,h1,⟨h2.len,cN h2.row hl,fun g hg=>(h2.grp g hg).base hl⟩,h3⟩
 ·obtain⟨h1,h2,h3⟩:=h.k2 hf
  exact⟨h1,h2.base hl,h3⟩
 ·obtain⟨L,h1,h2,h3,h4⟩:=h.k3 hf
  exact⟨L,h1,h2,cN h3 hl,h4⟩
theorem Hm (fmt:Int)(set:List bW)(bar:Bool)(ts:List BA):df fmt set (og fmt bar (ts.map bl))=ts.all fun s=>lB fmt set bar (bl s):=by
 unfold df og lB
 rw[List.all_flatMap,oj]
theorem kY (fmt:Int)(hf:dk fmt)(A:Option Addr)(c:Nat)(l:List aB)(N:Option Addr)(nc:Nat)(ts:List BA)(bar:Bool)(w:World)(hG:NY w)(hs:mT w A l)(hn:Rd w 1 N ts.length (strCells ts))(hl:ts.length≤1000)(hz:∀ s∈ts,s.size≤1000000)(hu:∀ s∈ts,Cp fmt bar (bl s)):
  Calls Tryz.prog 16 #[.int .i64 fmt,.slice A l.length c,.slice N ts.length nc,.bool bar] w fun e w'=>e=.returned (.tuple #[.bool (df fmt (l.map aB.plain) (og fmt bar (ts.map bl))),.int .i64 0])∧Below w.heap.size w w':=by
 rw[Hm]
 obtain⟨i0,hi,hz0,hz1,hz2⟩:=info_parts BP
 have HG:=ae hG;have HS:=ae hs;have HN:=ae hn;have HU:=ae hu;have HZ:=ae hz
 have HIS:=ae fun W=>fR fmt W
 rw[dT hf] at HIS
 have HF:=ae hf
 clear hG hs hn hu hz hf
 go_enter Tryz.func16,Tryz.ntmps16
 go_wp2_with fail
 refine(HIS.out _).mono ?_;rintro e w' ⟨rfl,rfl⟩
 go_wp2_with fail
 go_loopw [10,22] (fun s10 s22 wr=>∃ (k:Nat) (O:Option Addr) (oc:Nat) (xs:List pm),k≤ts.length∧xs.length=k∧s10=.slice O k oc∧s22=.int .i64 k∧Hid (wr.ownsRow w.heap.size 73 7 (.slice O k oc) k (xs.flatMap pm.cells))∧Hid (Hl fmt ts w.heap.size wr xs)∧Hid (Below w.heap.size w wr)) (fun _ i _=>ts.length-(intOf i).toNat)
 case atStart=>exact⟨0,none,0,[],by omega,rfl,rfl,rfl,World.ownsRow_nil _ _ _ _,fun j t s h=>by simp at h,bR⟩
 case round=>
  obtain⟨k,O,oc,xs,hk,hxl,rfl,rfl,HO,HI,HB⟩:=hrel
  by_cases hlt:k<ts.length
  ·obtain⟨s,hx⟩:∃ s,ts[k]?=some s:=⟨_,gG hlt⟩
   obtain⟨b,off,hA,he⟩:=(HN.out.below HB.out).2 (by omega)
   have e0:=he k (.string s) (by unfold strCells;rw[List.getElem?_map,hx];rfl)
   have hix:=fun W=>aH (T:=25) (E:=9) (sz:=1) (c:=nc) Tryz.underlying25 rfl Tryz.sizeOf9 hA hlt W
   simp only[Nat.mul_one] at hix
   have HX:=ae hx
   have RT:=ae fun W hb=>NQ fmt HF.out bar s W (HG.out.below hb) (HZ.out s (gM hx)) (HU.out s (gM hx)).1
   clear hx hA he
   go_wp2_with fail
   refine(RT.out _ HB.out).mono ?_;rintro e w1 ⟨t,rfl,hb1,ht⟩
   have TK:=ae (ht.base HB.out.size)
   have B1:=ae (ah HB.out hb1)
   have O1:=ae (aR HO.out hb1)
   have I1:Hid (Hl fmt ts w.heap.size w1 xs):=fun j t s h1 h2=>(HI.out j t s h1 h2).below hb1
   clear hb1 ht e0 hix RT HO HI HB
   unfold pm.val nQ
   obtain⟨W2,hW2⟩:∃ W2,w1.alloc (.cells t.cells.toArray 73)=W2:=⟨_,rfl⟩
   have B12:Hid (Below w1.heap.size w1 W2):=by rw[←hW2];exact bR.alloc lr _
   have K2:Hid (aF W2 w1.heap.size t.cells):=by show aF _ _ _;rw[←hW2];exact aF.new w1 t.cells _
   have O2:=ae (aR O1.out B12.out)
   have B2:=ae (ah B1.out B12.out)
   have T2:=ae (TK.out.below B12.out)
   have I2:Hid (Hl fmt ts w.heap.size W2 xs):=fun j t s h1 h2=>(I1.out j t s h1 h2).below B12.out
   have HTE:Hid (t.cells=[.slice t.tA t.tn t.tc,.string t.T.op,.string t.T.nm,.int .i64 t.T.aop,.string t.T.ver,.slice t.T.ka t.T.kids.length t.T.kc,.slice t.tB t.tm t.td]):=rfl
   have p0:=K2.out.cell 0 _ rfl
   have p1:=K2.out.cell 1 _ rfl
   have p2:=K2.out.cell 2 _ rfl
   have p3:=K2.out.cell 3 _ rfl
   have p4:=K2.out.cell 4 _ rfl
   have p5:=K2.out.cell 5 _ rfl
   have p6:=K2.out.cell 6 _ rfl
   unfold pm.cells at hW2
   have hwz:=B2.out.size
   have HW2:=ae hW2
   have TT:=ae T2.out
   clear hW2 B12 K2 TK O1 B1 I1 T2
   generalize hta:t.tA=ta at *
   generalize htn:t.tn=tn at *
   generalize htc:t.tc=tc at *
   generalize hop:t.T.op=op at *
   generalize hnm:t.T.nm=nm at *
   generalize hao:t.T.aop=ao at *
   generalize hve:t.T.ver=ve at *
   generalize hka:t.T.ka=ka at *
   generalize hkl:t.T.kids.length=kl at *
   generalize hkc:t.T.kc=kc at *
   generalize htb:t.tB=tb at *
   generalize htm:t.tm=tm at *
   generalize htd:t.td=td at *
   clear hta htn htc hop hnm hao hve hka hkl hkc htb htm htd
   go_upto_region 8 with(fail)
   rw[HW2.out]
   clear HW2
   go_wp2_with (
    at_builtin
    refine ak _ rfl _ _ _ rfl w.heap.size 73 i0 _ 7 128 Tryz.underlying66 hi hz0 hz1 hz2 rfl (by omega) (.slice O k oc) k _ rfl (O2.out.alloc _) (W2.heap.size+1) (some ⟨W2.heap.size,0,none⟩) 1 1 [.slice ta tn tc,.string op,.string nm,.int .i64 ao,.string ve,.slice ka kl kc,.slice tb tm td] rfl (yL W2 _ _ _ _ _ _ _ _) (by simp[Value.oneCell']) (by simp only[maxLen];omega) (by omega) (by simp;omega) ?_
    intro v1 w6 hown1 hg1 hat1
    obtain⟨O3,d1,rfl⟩:=aG hown1)
   have BA:Hid (Below W2.heap.size W2 (W2.alloc (.cells #[.slice ta tn tc,.string op,.string nm,.int .i64 ao,.string ve,.slice ka kl kc,.slice tb tm td] 73))):=bR.alloc lr _
   have B6:Hid (Below w.heap.size w w6):=(ah B2.out BA.out).grown hg1 (by simp;omega) (fun j hj=>(O2.out.lt j hj).1)
   have I6:Hid (Hl fmt ts w.heap.size w6 (xs++[t])):=Hl.snoc (fun j t s h1 h2=>((I2.out j t s h1 h2).below BA.out).app (O2.out.alloc _) hg1) hxl HX.out ((TT.out.below BA.out).app (O2.out.alloc _) hg1)
   have O6:Hid (w6.ownsRow w.heap.size 73 7 (.slice O3 (k+1) d1) (k+1) ((xs++[t]).flatMap pm.cells)):=by
    show World.ownsRow _ _ _ _ _ _ _
    rw[List.flatMap_append,List.flatMap_cons,List.flatMap_nil,List.append_nil,HTE.out];exact hown1
   clear hown1 hg1 hat1 BA O2 B2 I2 p0 p1 p2 p3 p4 p5 p6
   go_wp2_with fail
   go_roundw
   case rel=>exact⟨k+1,O3,d1,xs++[t],by omega,by simp[hxl],rfl,by go_num,O6,I6,B6⟩
   case measure=>simp[intOf];omega
  ·obtain rfl:k=ts.length:=by omega
   have RW:Hid (Rd wr 7 O ts.length (xs.flatMap pm.cells)):=bA HO.out
   have HTH:=ae fun (j:Nat) (t:pm) (s:BA) (h1:xs[j]?=some t) (h2:ts[j]?=some s) W (hb:Below wr.heap.size wr W)=>JV fmt HF.out A c l t (bl s) bar w.heap.size W (HG.out.below (ah HB.out hb)).1 (HS.out.below (ah HB.out hb)) ((HI.out j t s h1 h2).below hb) (HU.out s (gM h2))
   clear HI HO hlt
   generalize l.length=n at *
   go_wp2_with fail
   obtain⟨wo,rfl⟩:∃ wo:World,wo=wr:=⟨_,rfl⟩
   go_loopw [42] (fun s42 wr=>∃ k:Nat,k≤ts.length∧s42=.int .i64 k∧Hid ((ts.take k).all (fun s=>lB fmt (l.map aB.plain) bar (bl s))=true)∧Hid (Below wo.heap.size wo wr)) (fun i _=>ts.length-(intOf i).toNat)
   case atStart=>exact⟨0,by omega,rfl,by simp[Hid],bR⟩
   case round=>
    obtain⟨k,hk2,rfl,HA,HB2⟩:=hrel
    by_cases hlt:k<ts.length
    ·obtain⟨s,hx⟩:∃ s,ts[k]?=some s:=⟨_,gG hlt⟩
     obtain⟨t,ht⟩:∃ t,xs[k]?=some t:=⟨_,gG (by omega)⟩
     have RW2:Hid (Rd wr 7 O xs.length (xs.flatMap pm.cells)):=by have:=RW.out.below HB2.out;rwa [←hxl] at this
     obtain⟨b,off,hA,he⟩:=RW2.out.elem Ul k t ht
     have e0:=he 0 _ rfl
     have e1:=he 1 _ rfl
     have e2:=he 2 _ rfl
     have e3:=he 3 _ rfl
     have e4:=he 4 _ rfl
     have e5:=he 5 _ rfl
     have e6:=he 6 _ rfl
     have hix:=fun W=>aH (T:=66) (E:=73) (sz:=7) (c:=oc) Tryz.underlying66 rfl Tryz.sizeOf73 hA hlt W
     simp only[Nat.add_zero] at e0
     have TH:=ae (HTH.out k t s ht hx)
     unfold pm.val nQ at TH
     have HX:=ae hx
     obtain⟨r,hr⟩:∃ r,lB fmt (l.map aB.plain) bar (bl s)=r:=⟨_,rfl⟩
     rw[hr] at TH
     have HRR:=ae hr
     clear hA he hx ht RW2 hr
     generalize t.tA=ta at *
     generalize t.tn=tn at *
     generalize t.tc=tc at *
     generalize t.T.op=op at *
     generalize t.T.nm=nm at *
     generalize t.T.aop=ao at *
     generalize t.T.ver=ve at *
     generalize t.T.ka=ka at *
     generalize t.T.kids.length=kl at *
     generalize t.T.kc=kc at *
     generalize t.tB=tb at *
     generalize t.tm=tm at *
     generalize t.td=td at *
     have B3:Hid (Below wo.heap.size wo (wr.alloc (.cells #[.slice ta tn tc,.string op,.string nm,.int .i64 ao,.string ve,.slice ka kl kc,.slice tb tm td] 73))):=HB2.out.alloc HB2.out.size _
     go_wp2_with fail
     refine(TH.out _ B3.out).mono ?_;rintro e w4 ⟨rfl,hb4⟩
     have B4:=ae (ah B3.out hb4)
     clear hb4 e0 e1 e2 e3 e4 e5 e6 hix TH
     cases r
     ·have E:Hid (ts.all (fun s=>lB fmt (l.map aB.plain) bar (bl s))=false):=Eg (gM HX.out) HRR.out
      have B9:=ae (ah HB.out B4.out)
      go_wp2_with fail
      go_ret2
      exact⟨by rw[E.out];rfl,B9.out⟩
     ·have AT:Hid ((ts.take (k+1)).all (fun s=>lB fmt (l.map aB.plain) bar (bl s))=true):=oX HA.out HX.out HRR.out
      go_wp2_with fail
      go_roundw
      case rel=>exact⟨k+1,by omega,by go_num,AT,B4⟩
      case measure=>simp[intOf];omega
    ·have E:Hid (ts.all (fun s=>lB fmt (l.map aB.plain) bar (bl s))=true):=vG HA.out hlt
     have B9:=ae (ah HB.out HB2.out)
     go_wp2_with fail
     go_ret2
     exact⟨by rw[E.out];rfl,B9.out⟩
end
end Go.Proofs.YtkjdbpjglobbjaaGreatDoor
