/- A part of the proof of a law on dependencies in three formats. No condition. -/
import Derived.Laws.IdiomStrings
import Derived.Test.YtkjdbpjglobbjaaGreatDoorE07
import Derived.Test.YtkjdbpjglobbjaaGreatDoorE13
set_option maxRecDepth 100000
set_option maxHeartbeats 20000000
set_option linter.unusedVariables false
set_option linter.unusedSimpArgs false
namespace Go.Proofs.YtkjdbpjglobbjaaGreatDoor
theorem vX:∀ (w r:LU),eQ (w++r) w=true
 | [],r=>by cases r<;>rfl
 | a::w,r=>by simp[eQ,vX w r]
def dL (l:LU):Option (Nat×LU):=
 if (lK (l.take (au aD l))&&decide (cF (l.take (au aD l))≤999999999))=true then some ((cF (l.take (au aD l))).toNat,l.drop (au aD l)) else none
def iK:Nat→List Nat→LU→Option (List Nat×LU)
 | 0,_,_=>none
 | k+1,acc,l=>match dL l with
  | none=>none
  | some (n,r)=>match r with
   | 46::t=>iK k (acc++[n]) t
   | r=>some (acc++[n],r)
def eI (l:LU):LU×LU:=match l with
 | b::r=>if be b=true then ([b],r) else ([],l)
 | []=>([],[])
def iL (sg:UInt8):List (LU)→LU×Nat×LU→Option (LU×Nat×LU)
 | [],s=>some s
 | w::ws,s=>if s.1=[]∧eQ s.2.2 (sg::w)=true then (match dL (s.2.2.drop (1+w.length)) with
  | none=>none
  | some (m,t)=>iL sg ws (w,m,t)) else iL sg ws s
def Rh (l:LU):Option (Nat×LU):=match bU 58 l with
 | none=>some (0,l)
 | some i=>(dL l).map fun x=>(x.1,l.drop (i+1))
def nd (fmt:Int)(l:LU):Option aT:=
 match Rh l with
 | none=>none
 | some (ep,r0)=>match iK (r0.length+1) [] r0 with
  | none=>none
  | some (nums,r1)=>match iL (jj fmt) bu ([],0,(eI r1).2) with
   | none=>none
   | some (pre,pnum,r2)=>if eQ r2 (bK fmt)=true then (match dL (r2.drop (bK fmt).length) with
    | some (rev,[])=>some ⟨ep,nums,(eI r1).1,pre,pnum,rev⟩
    | _=>none) else none
theorem lO {n:Nat}(hn:n≤999999999){r:LU}(hr:∀ x,r.head?=some x→aD x=false):dL (aC n++r)=some (n,r):=by
 unfold dL
 rw[er (cG n) hr,List.take_left,List.drop_left,Ap,vL,if_pos (by simp;omega)]
 simp
theorem vY:∀ (L:List Nat)(k:Nat)(acc:List Nat)(r:LU),L≠[]→L.length≤k→(∀ n∈L,n≤999999999)→(∀ x,r.head?=some x→aD x=false∧x≠46) →
  iK k acc (bE 46 (L.map aC)++r)=some (acc++L,r)
 | [],_,_,_,h,_,_,_=>absurd rfl h
 | _::_,0,_,_,_,h,_,_=>by simp at h
 | [n],k+1,acc,r,_,_,hL,hr=>by
  simp only[List.map_cons,List.map_nil,bE]
  unfold iK
  rw[lO (hL n (by simp)) (fun x hx=>(hr x hx).1)]
  cases r with
  | nil=>rfl
  | cons x t=>
   have hx:=(hr x rfl).2
   simp only
   split
   ·rename_i e;injection e with e1 _;exact absurd e1 hx
   ·rfl
 | n::m::L,k+1,acc,r,_,hk,hL,hr=>by
  simp only[List.map_cons,bE,List.append_assoc,List.cons_append]
  unfold iK
  rw[lO (hL n (by simp)) (fun x hx=>by simp only[List.head?_cons,Option.some.injEq] at hx;rw[←hx];decide)]
  simp only
  have:=vY (m::L) k (acc++[n]) r (by simp) (by simp at hk ⊢;omega) (fun x hx=>hL x (List.mem_cons_of_mem _ hx)) hr
  simp only[List.map_cons] at this
  rw[this];simp
theorem Ri {sg b : UInt8} (h : b ≠ sg) (r w : LU) : eQ (b :: r) (sg :: w) = false := by
  simp only [eQ, Bool.and_eq_false_iff]; left; simpa using h
theorem vZ {sg:UInt8}:∀ (ws:List (LU))(p:LU)(n:Nat)(r:LU),(p≠[]∨∀ x,r.head?=some x→x≠sg)→iL sg ws (p,n,r)=some (p,n,r)
 | [],_,_,_,_=>rfl
 | w::ws,p,n,r,h=>by
  unfold iL
  rw[if_neg,vZ ws p n r h]
  rintro⟨h1,h2⟩
  rcases h with h | h
  ·exact h h1
  ·cases r with
   | nil=>simp[eQ] at h2
   | cons x t=>
    have:=Ri (h x rfl) t w
    rw[show(p,n,x::t).2.2=x::t from rfl,this] at h2;cases h2
theorem Oi {sg : UInt8} {w : List UInt8} (hw : w ∈ bu) {n : Nat} (hn : n ≤ 999999999) {r : List UInt8} (hr : ∀ x, r.head? = some x → aD x = false) :
    iL sg bu ([], 0, sg :: (w ++ (aC n ++ r))) = some (w, n, r) := by
  have ht := lO hn hr
  have hd : ∀ (w' : LU), w' ∈ bu → w' ≠ w → eQ (sg :: (w ++ (aC n ++ r))) (sg :: w') = false := by
    intro w' hw' hne
    simp only [bu, List.mem_cons, List.not_mem_nil, or_false] at hw hw'
    rcases hw with rfl | rfl | rfl | rfl <;> rcases hw' with rfl | rfl | rfl | rfl <;> first | exact absurd rfl hne | simp [eQ]
  have hb : eQ (sg :: (w ++ (aC n ++ r))) (sg :: w) = true := vX (sg :: w) (aC n ++ r)
  have hdr : (sg :: (w ++ (aC n ++ r))).drop (1 + w.length) = aC n ++ r := by rw [Nat.add_comm, List.drop_succ_cons, List.drop_left]
  have key : ∀ (ws : List (LU)), (∀ x ∈ ws, x ∈ bu) → w ∈ ws → iL sg ws ([], 0, sg :: (w ++ (aC n ++ r))) = some (w, n, r) := by
    intro ws
    induction ws with
    | nil => intro _ h; simp at h
    | cons v vs ih =>
      intro hall hm
      unfold iL
      by_cases e : v = w
      · subst e
        rw [if_pos ⟨rfl, hb⟩]
        simp only [hdr, ht]
        exact vZ vs v n r (.inl (CO hw))
      · rw [if_neg (by simp only [hd v (hall v (by simp)) e]; simp)]
        rcases List.mem_cons.1 hm with h | h
        · exact absurd h.symm e
        · exact ih (fun x hx => hall x (List.mem_cons_of_mem _ hx)) h
  exact key bu (fun _ h => h) hw
theorem EP {x:UInt8}{l:LU}(h:x ∉ l):bU x l=none:=mw x l (fun j e=>h (gM e))
theorem Lr {fmt:Int}{c:aT}(ok:c.ok)(h3:fmt=3→c.ep=0):nd fmt (aN fmt c)=some c:=by
 obtain⟨s1,s2,s3,s4,s5⟩:=CP fmt
 generalize hR:bK fmt++aC c.rev=R
 have hR45:∃ t,R=45::t:=by rw[←hR];unfold bK;split<;>exact⟨_,rfl⟩
 have hRno:(58:UInt8) ∉ R:=by
  rw[←hR,List.mem_append]
  rintro(h | h)
  ·unfold bK at h;split at h<;>simp at h
  ·exact fU _ rn h
 have h58:(58:UInt8) ∉ bi fmt c++R:=by rw[List.mem_append];rintro(h | h);exact ro ok h;exact hRno h
 have hPR:∀ x,(bM fmt c++R).head?=some x→x=jj fmt∨x=45:=by
  intro x hx
  unfold bM at hx
  split at hx
  ·obtain⟨t,e⟩:=hR45;rw[e] at hx;simp at hx;exact .inr hx.symm
  ·simp at hx;exact .inl hx.symm
 have hLR:∀ x,(c.lt++(bM fmt c++R)).head?=some x→aD x=false∧x≠46:=by
  intro x hx
  rcases ok.lt with e | ⟨b,e,hb⟩
  ·rw[e,List.nil_append] at hx
   rcases hPR x hx with rfl | rfl
   ·exact⟨s4,s3⟩
   ·decide
  ·rw[e] at hx
   simp only[List.cons_append,List.head?_cons,Option.some.injEq] at hx
   subst hx
   constructor
   ·cases h:aD b with
    | false=>rfl
    | true=>rw[jk h] at hb;cases hb
   ·rintro rfl;revert hb;decide
 have hl:bi fmt c++R=fC c++(c.lt++(bM fmt c++R)):=by unfold bi;simp
 have hep:Rh (aN fmt c)=some (c.ep,bi fmt c++R):=by
  unfold Rh aN iE
  rw[hR]
  by_cases e:fmt=3∨c.ep=0
  ·have h0:c.ep=0:=e.elim h3 id
   rw[if_pos e,List.nil_append,EP h58,h0]
  ·rw[if_neg e,List.append_assoc,List.singleton_append,ou _ _ h58]
   simp only
   rw[lO ok.ep (fun x hx=>by simp only[List.head?_cons,Option.some.injEq] at hx;rw[←hx];decide)]
   simp
 have hnums:iK ((bi fmt c++R).length+1) [] (bi fmt c++R)=some (c.nums,c.lt++(bM fmt c++R)):=by
  have:=vY c.nums ((bi fmt c++R).length+1) [] (c.lt++(bM fmt c++R)) ok.nums (by
   have:=nw c.nums
   rw[hl,List.length_append];unfold fC;omega) ok.each hLR
  rw[List.nil_append] at this
  rw[←this,hl];rfl
 have hlett:eI (c.lt++(bM fmt c++R))=(c.lt,bM fmt c++R):=by
  rcases ok.lt with e | ⟨b,e,hb⟩
  ·rw[e,List.nil_append]
   cases hq:bM fmt c++R with
   | nil=>rfl
   | cons x t=>
    have hx:be x=false:=by
     rcases hPR x (by rw[hq];rfl) with rfl | rfl
     ·exact s5
     ·decide
    unfold eI;simp only;rw[if_neg (by rw[hx];simp)]
  ·rw[e]
   show eI (b::(bM fmt c++R))=_
   unfold eI;simp only;rw[if_pos hb]
 have hpre:iL (jj fmt) bu ([],0,bM fmt c++R)=some (c.pre,c.pnum,R):=by
  obtain⟨t,hR45⟩:=hR45
  rcases ok.pre with⟨e,en⟩ | h
  ·unfold bM;rw[if_pos e,List.nil_append,e,en]
   exact vZ bu [] 0 R (.inr (fun x hx=>by rw[hR45] at hx;simp at hx;rw[←hx];exact s2.symm))
  ·unfold bM;rw[if_neg (CO h)]
   have:=Oi (sg:=jj fmt) h ok.pnum (r:=R) (fun x hx=>by rw[hR45] at hx;simp at hx;rw[←hx];decide)
   simpa using this
 have hrev:dL (R.drop (bK fmt).length)=some (c.rev,[]):=by
  rw[←hR,List.drop_left]
  have:=lO ok.rev (r:=[]) (fun x hx=>by simp at hx)
  simpa using this
 have hdash:eQ R (bK fmt)=true:=by rw[←hR];exact vX _ _
 unfold nd
 simp only[hep,hnums,hlett,hpre,hdash,if_true,hrev]
theorem we {fmt:Int}(hf:fmt=1∨fmt=2∨fmt=3){l:LU}(hs:bC fmt l≠none):
  lF fmt l=match nd fmt l with
   | none=>none
   | some c=>if fits fmt l c=true then some c else none:=by
 cases h:lF fmt l with
 | some c=>
  obtain⟨h1,h2⟩:=ov h
  obtain⟨ok,h3⟩:=km h1
  have hr:nd fmt l=some c:=by rw[←h2];exact Lr ok h3
  rw[hr]
  simp only
  rw[if_pos (rq.2 ⟨h1,h2⟩)]
 | none=>
  cases hr:nd fmt l with
  | none=>rfl
  | some c=>
   simp only
   by_cases hfit:fits fmt l c=true
   ·obtain⟨h1,h2⟩:=rq.1 hfit
    rw[CT hf hs h1 h2] at h;cases h
   ·rw[if_neg hfit]
section
open Go.RowKit
theorem Kh (w:World)(base:Nat)(hb:base≤w.heap.size)(x:Value):(w.alloc (.cells #[x] 5)).ownsRow base 5 1 (.slice (some ⟨w.heap.size,0,none⟩) 1 1) 1 [x]:=
 ⟨rfl,.inr ⟨w.heap.size,1,#[x],rfl,hb,heap_alloc_new w _,lr,by unfold maxLen;omega,rfl,rfl⟩⟩
theorem FU (l:LU):∀ u∈Lib.byteCells l,u.oneCell'=true:=by
 intro u hu;obtain⟨n,_,rfl⟩:=List.mem_map.1 hu;rfl
theorem rS (n:Nat)(hn:n≤4611686018427387903)(w:World):
  Calls Tryz.prog 123 #[.int .i64 n] w fun e w'=>e=.returned (.string (gO n))∧Below w.heap.size w w':=by
 obtain⟨i0,hi,hz0,hz1,hz2⟩:=info_parts Rc
 have d0:decide ((n:Int)<0)=false:=dF (by omega)
 have hdl:=lR 18 n (by omega)
 go_enter Tryz.func123,Tryz.ntmps123
 go_wp2_with fail
 go_loopw [0,3] (fun s0 s3 wr=>∃ (m:Nat) (L:LU) (A:Option Addr) (c:Nat),s0=.int .i64 m∧s3=.slice A L.length c∧m≤4611686018427387903∧L.length≤19∧Hid (aC n=aC m++L)∧Hid (wr.ownsRow w.heap.size 5 1 (.slice A L.length c) L.length (Lib.byteCells L))∧Hid (Below w.heap.size w wr)) (fun s0 _ _=>(intOf s0).toNat)
 case atStart=>exact⟨n,[],none,0,rfl,rfl,hn,by simp,by simp[Hid],World.ownsRow_nil _ _ _ _,bR⟩
 case round=>
  obtain⟨m,L,A,c,rfl,rfl,hm,hL,HD,HO,HB⟩:=hrel
  have hbs:=HB.out.size
  obtain⟨dg,hdg⟩:∃ dg:Nat,m % 10=dg:=⟨_,rfl⟩
  by_cases h9:9<m
  ·have d1:decide ((9:Int)<(m:Int))=true:=dT (by omega)
   have t1:(m:Int).tmod 10=((m % 10:Nat):Int):=by rw[Int.tmod_eq_emod_of_nonneg (by omega)];omega
   have t4:(m:Int).tdiv 10=((m / 10:Nat):Int):=by rw[Int.tdiv_eq_ediv_of_nonneg (by omega)];omega
   have hdl9:dg<10:=by omega
   have DV:Hid (((UInt8.ofNat (48+dg)).toNat:Int)=48+(dg:Int)):=by show _=_;rw[jZ hdl9];omega
   have DD:Hid (aC n=aC (m / 10)++(UInt8.ofNat (48+dg)::L)):=by
    show _=_;rw[HD.out,gX (by omega),hdg];simp
   have LL:Hid (L.length+1≤19):=by
    have:=congrArg List.length DD.out;rw[List.length_append,List.length_cons] at this;have:=gY (m / 10);show _≤_;omega
   have RL:=ae (((bA HO.out).below (bR.alloc lr (.cells #[.int .u8 (48+(dg:Int))] 5))).reads (by omega))
   go_wp2_with (
    at_builtin
    refine ak _ rfl _ _ 170 rfl w.heap.size 5 i0 _ 1 1 Tryz.underlying170 hi hz0 hz1 hz2 rfl (by omega) (.slice (some ⟨wr.heap.size,0,none⟩) 1 1) 1 [.int .u8 (48+(dg:Int))] rfl (Kh wr w.heap.size hbs _) _ A L.length c (Lib.byteCells L) rfl RL.out (FU L) (by simp only[maxLen];omega) (by omega) (by simp;omega) ?_
    intro v1 w6 hown1 hg1 hat1
    obtain⟨A1,c1,rfl⟩:=aG hown1)
   have O2:Hid (w6.ownsRow w.heap.size 5 1 (.slice A1 (UInt8.ofNat (48+dg)::L).length c1) (UInt8.ofNat (48+dg)::L).length (Lib.byteCells (UInt8.ofNat (48+dg)::L))):=by
    have h2:=hown1
    rw[Nat.add_comm 1 L.length] at h2
    have e:Lib.byteCells (UInt8.ofNat (48+dg)::L)=[.int .u8 (48+(dg:Int))]++Lib.byteCells L:=by
     unfold Lib.byteCells;rw[List.map_cons,DV.out];rfl
    rw[e];exact h2
   have B2:Hid (Below w.heap.size w w6):=(HB.out.alloc hbs _).grown hg1 (by simp;omega) (fun q hq=>by have:wr.heap.size=q:=Option.some.inj hq;omega)
   clear hown1 hg1 hat1 HO RL
   go_wp2_with fail
   go_roundw
   case rel=>exact⟨m / 10,UInt8.ofNat (48+dg)::L,A1,c1,by go_num,by rw[List.length_cons,Nat.add_comm],by omega,LL.out,DD,O2,B2⟩
   case measure=>simp[intOf];omega
  ·have d1:decide ((9:Int)<(m:Int))=false:=dF (by omega)
   have hdl9:m<10:=by omega
   have DV:Hid (((UInt8.ofNat (48+m)).toNat:Int)=48+(m:Int)):=by show _=_;rw[jZ hdl9];omega
   have DD:Hid (aC n=UInt8.ofNat (48+m)::L):=by show _=_;rw[HD.out,cK hdl9];rfl
   obtain⟨db,hdb⟩:∃ db,UInt8.ofNat (48+m)=db:=⟨_,rfl⟩
   rw[hdb] at DV DD
   clear hdb
   have RL:=ae (((bA HO.out).below (bR.alloc lr (.cells #[.int .u8 (48+(m:Int))] 5))).reads (by omega))
   have EB:Hid (Lib.byteCells (db::L)=[.int .u8 (48+(m:Int))]++Lib.byteCells L):=by
    show _=_;unfold Lib.byteCells;rw[List.map_cons,DV.out];rfl
   clear hdg
   go_wp2_with (
    at_builtin
    refine ak _ rfl _ _ 170 rfl w.heap.size 5 i0 _ 1 1 Tryz.underlying170 hi hz0 hz1 hz2 rfl (by omega) (.slice (some ⟨wr.heap.size,0,none⟩) 1 1) 1 [.int .u8 (48+(m:Int))] rfl (Kh wr w.heap.size hbs _) _ A L.length c (Lib.byteCells L) rfl RL.out (FU L) (by simp only[maxLen];omega) (by omega) (by simp;omega) ?_
    intro v1 w6 hown1 hg1 hat1
    obtain⟨g,cap,rfl,hgb,hgl⟩:=hown1.form (by omega)
    have hcv:(convert 170 9 (.slice (some ⟨g,0,none⟩) (1+L.length) cap)).run Tryz.prog w6=.ok (.string ⟨(db::L).toArray⟩) w6:=by
     have h:=run_convert_bytes_back (P:=Tryz.prog) w6 170 9 5 ⟨g,0,none⟩ cap (db::L) Tryz.underlying170 Tryz.underlying5 Tryz.underlying9 (fun j hj=>by
      refine hown1.cells (g:=g) rfl j _ ?_
      rw[←EB.out];unfold Lib.byteCells;rw[List.getElem?_map,gG hj];rfl)
     rw[List.length_cons,Nat.add_comm] at h
     exact h)
   have B2:Hid (Below w.heap.size w w6):=(HB.out.alloc hbs _).grown hg1 (by simp;omega) (fun q hq=>by have:wr.heap.size=q:=Option.some.inj hq;omega)
   go_wp2_with fail
   go_ret
   exact⟨by unfold gO;rw[DD.out];rfl,B2.out⟩
end
end Go.Proofs.YtkjdbpjglobbjaaGreatDoor
