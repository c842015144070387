/- A part of the proof that ModelChecks holds. No condition. -/
import Derived.Test.YtdfdllbebfoggaaGreatDoorD20
set_option maxRecDepth 100000
set_option maxHeartbeats 20000000
set_option linter.unusedVariables false
set_option linter.unusedSimpArgs false
namespace Go.Proofs.YtdfdllbebfoggaaGreatDoor
section
open Go.RowKit
structure RPc where
 kind:Int
 num:Int
 text:BA
def RPc.cells (x:RPc):List Value:=[.int .i64 x.kind,.int .i64 x.num,.string x.text]
theorem rpc_len (x:RPc):x.cells.length=3:=rfl
theorem info_rpiece:(Tryz.prog.info? 188).map (fun i=>(i.zero,i.size,i.bytes))=some (some (.agg #[.int .i64 0,.int .i64 0,.string ⟨#[]⟩]),3,32):=by kernel_rfl
structure RRow (w wr:World) (ps:List RPc) (A:Option Addr) (n c:Nat):Prop where
 len:ps.length=n
 row:wr.ownsRow w.heap.size 188 3 (.slice A n c) n (ps.flatMap RPc.cells)
 bel:Below w.heap.size w wr
 kinds:∀ x∈ps,x.kind≠2
theorem RRow.grow {w wr w2:World}{ps:List RPc}{A A1:Option Addr}{n c c1:Nat}{o:Obj}{x:RPc}(h:RRow w wr ps A n c)(hx:x.kind≠2)
  (o2:w2.ownsRow w.heap.size 188 3 (.slice A1 (n+1) c1) (n+1) (ps.flatMap RPc.cells++[.int .i64 x.kind,.int .i64 x.num,.string x.text]))
  (g2:(wr.alloc o).grownBy w2 (Value.slice A n c).ownBlock):RRow w w2 (ps++[x]) A1 (n+1) c1:=by
 refine⟨by simp[h.len],by rw[List.flatMap_append];exact o2,?_,?_⟩
 ·exact(h.bel.alloc h.bel.size o).grown g2 (by have:=h.bel.size;simp;omega) (fun j hj=>by have:=(h.row.lt j hj).1;omega)
 ·intro y hy
  rcases List.mem_append.1 hy with hy | hy
  ·exact h.kinds y hy
  ·simp at hy;subst hy;exact hx
def tailA (k:Nat)(l:LU)(acc:List Pc)(r:LU):Option (List Pc×LU×LU):=match sufsA k acc r with
 | none=>none
 | some (b,t)=>endA l b t
theorem splitP_nums {l:LU}(h:numsA (l.length+1) 7 [] l=none):splitP l=none:=by unfold splitP apkA;rw[h];rfl
theorem splitP_tail {l r:LU}{a:List Pc}(h:numsA (l.length+1) 7 [] l=some (a,r)):splitP l=(tailA ((lettA a r).2.length+1) l (lettA a r).1 (lettA a r).2).map fun x=>([],x.2.1,x.2.2):=by unfold splitP apkA tailA;rw[h];rfl
def spT (k:Nat)(l:LU)(acc:List Pc)(r:LU):Option (LU×LU×LU):=(tailA k l acc r).map fun x=>([],x.2.1,x.2.2)
theorem spT_no {l r:LU}{a:List Pc}(h:numsA (l.length+1) 7 [] l=some (a,r))(h0:lt0 r=false):splitP l=spT (r.length+1) l a r:=by
 rw[splitP_tail h,lettA_no h0];rfl
theorem spT_yes {l r:LU}{a:List Pc}(h:numsA (l.length+1) 7 [] l=some (a,r))(h0:lt0 r=true):splitP l=spT ((r.drop 1).length+1) l (a++[⟨5,r.take 1,0⟩]) (r.drop 1):=by
 rw[splitP_tail h,lettA_yes h0];rfl
theorem runN_cons_no {p:UInt8→Bool}{a:UInt8}{r:LU}(h:p a=false):runN p (a::r)=0:=by simp[runN,h]
theorem runN_head {p:UInt8→Bool}:∀ (l:LU),runN p l<l.length→∃ a r,l.drop (runN p l)=a::r∧p a=false
 | [],h=>by simp at h
 | a::r,h=>by
  cases hp:p a with
  | false=>exact⟨a,r,by rw[runN_cons_no hp];rfl,hp⟩
  | true=>
   have e:runN p (a::r)=runN p r+1:=by simp[runN,hp]
   rw[e] at h ⊢
   simpa using runN_head r (by simpa using h)
theorem run_cap:∀ (l:LU),runN smlB l≠runN letB l→∃ a r,l.drop (runN smlB l)=a::r∧capB a=true
 | [],h=>absurd rfl h
 | a::r,h=>by
  cases hs:smlB a with
  | false=>
   have e1:runN smlB (a::r)=0:=runN_cons_no hs
   cases hc:capB a with
   | false=>exact absurd (by rw[e1,runN_cons_no (by simp[letB,hs,hc])]) h
   | true=>exact⟨a,r,by rw[e1];rfl,hc⟩
  | true=>
   have e1:runN smlB (a::r)=runN smlB r+1:=by simp[runN,hs]
   have e2:runN letB (a::r)=runN letB r+1:=by simp[runN,letB,hs]
   rw[e1]
   simpa using run_cap r (fun e=>h (by rw[e1,e2,e]))
theorem word_gone {k:Nat}{l q:LU}{acc:List Pc}(h:wordIx (q.take (runN letB q))=none):tailA (k+1+1) l acc (95::q)=none:=by
 unfold tailA
 by_cases he:runN smlB q=runN letB q
 ·rw[sufsA_none rfl (by rw[he];exact h)]
 ·obtain⟨a,r,hd,hc⟩:=run_cap q he
  cases hw:wordIx (q.take (runN smlB q)) with
  | none=>rw[sufsA_none rfl hw]
  | some wd=>
   have hcap:65≤a.toNat∧a.toNat≤90:=by simpa [capB] using hc
   have hdig:digB a=false:=by simp only[digB];exact dF (by omega)
   have h95:a≠95:=by rintro rfl;simp at hcap
   have h45:a≠45:=by rintro rfl;simp at hcap
   rw[sufsA_more rfl hw rfl,hd,runN_cons_no hdig,List.drop_zero,sufsA_stop (by intro t e;injection e with e _;exact h95 e)]
   show endA l _ (a::r)=none
   unfold endA
   split
   ·rename_i e;cases e
   ·rename_i e;injection e with e _;exact absurd e h45
   ·rfl
theorem spT_end {k:Nat}{l r:LU}{a:List Pc}(h:head0 95 r=false):spT (k+1) l a r=(endA l a r).map fun x=>([],x.2.1,x.2.2):=by
 unfold spT tailA;rw[sufsA_stop (head0_no h)]
theorem endA_gone {l r:LU}{a:List Pc}(h0:r≠[])(h:∀ t,r=45::114::t→numB t=false):endA l a r=none:=by
 unfold endA
 split
 ·exact absurd rfl h0
 ·rename_i t;rw[if_neg (by rw[h t rfl];simp)]
 ·rfl
theorem numB_short {t:LU}(h:runN digB t=0):numB t=false:=by
 cases t with
 | nil=>rfl
 | cons b u=>
  cases hb:digB b with
  | false=>simp[numB,hb]
  | true=>simp[runN,hb] at h
theorem numB_part {t:LU}(h:runN digB t≠t.length):numB t=false:=by
 have:=runN_eq digB t
 unfold numB
 rw[←this,dF h,Bool.and_false]
theorem numB_full {t:LU}(h:runN digB t=t.length)(h0:0<t.length):numB t=true:=by
 have:=runN_eq digB t
 unfold numB
 rw[←this,dT h,Bool.and_true]
 cases t with
 | nil=>simp at h0
 | cons _ _=>rfl
def RPost (s:BA)(w:World)(e:Ending)(w':World):Prop:=
 Below w.heap.size w w'∧match splitP (bl s) with
  | none=>e=.returned (.slice none 0 0)
  | some (_,p,q)=>∃ (A:Option Addr) (n c:Nat) (ps:List RPc) (x:RPc),e=.returned (.slice A (n+1) c)∧ps.length=n∧Rd w' 3 A (n+1) ((ps++[x]).flatMap RPc.cells)∧n≤64 ∧
   ((x.kind=2∧bl x.text=q∧p=(bl s).take (s.size-x.text.size-2)∧x.text.size+2≤s.size)∨(x.kind≠2∧q=[]∧p=bl s))
theorem reads_new3p (w:World)(t:TypeId)(x y z:Value):Reads (w.alloc (.cells #[x,y,z] t)) (w.heap.size+1) 3 (some ⟨w.heap.size,0,none⟩) 1 [x,y,z]:=by
 refine⟨rfl,fun _=>⟨_,rfl,by simp,fun j u hu=>?_⟩⟩
 match j,hu with
 | 0,hu=>simp at hu;subst hu;simp[Addr.add]
 | 1,hu=>simp at hu;subst hu;simp[Addr.add]
 | 2,hu=>simp at hu;subst hu;simp[Addr.add]
 | j+3,hu=>simp at hu
def szV:Value→Nat
 | .string r=>r.size
 | _=>0
theorem rpost_no {s:BA}{w w':World}(h:splitP (bl s)=none)(hb:Below w.heap.size w w'):RPost s w (.returned (.slice none 0 0)) w':=⟨hb,by rw[h]⟩
theorem rpost_plain {s:BA}{w w':World}{ps:List RPc}{A:Option Addr}{n c:Nat}(h:splitP (bl s)=some ([],bl s,[]))(hR:RRow w w' ps A n c)(hn:0<n)(hn2:n≤64):RPost s w (.returned (.slice A n c)) w':=by
 refine⟨hR.bel,?_⟩
 rw[h]
 have hl:=hR.len
 have hne:ps≠[]:=by rintro rfl;simp at hl;omega
 have hsp:=List.dropLast_concat_getLast hne
 have e1:n-1+1=n:=by omega
 exact⟨A,n-1,c,ps.dropLast,ps.getLast hne,by rw[e1],by simp[hl],by rw[e1,hsp];exact owns_rd hR.row,by omega,.inr ⟨hR.kinds _ (List.getLast_mem hne),rfl,rfl⟩⟩
theorem RRow.alloc {w wr:World}{ps:List RPc}{A:Option Addr}{n c:Nat}(h:RRow w wr ps A n c)(o:Obj):RRow w (wr.alloc o) ps A n c:=⟨h.len,h.row.alloc o,h.bel.alloc h.bel.size o,h.kinds⟩
def WAt (wr:World)(b:Nat):Prop:=∀ j,j<9→wr.cell? ⟨b,j,none⟩=some (.string (vWord j))
theorem wat_new (w:World)(t:TypeId):WAt (w.alloc (.cells wordCells.toArray t)) w.heap.size:=by
 intro j hj
 rcases(by omega:j=0∨j=1∨j=2∨j=3∨j=4∨j=5∨j=6∨j=7∨j=8) with rfl | rfl | rfl | rfl | rfl | rfl | rfl | rfl | rfl<;>simp[wordCells,List.range,List.range.loop]
theorem bl_mid (r:BA)(i n:Nat):bl (r.extract i (i+n))=((bl r).drop i).take n:=by
 rw[bl_extract,Nat.add_sub_cancel_left]
theorem WAt.drewN {wr:World}{b:Nat}(h:WAt wr b)(k:Nat):WAt (wr.drewN k) b:=by intro j hj;simpa using h j hj
theorem RRow.drewN {w wr:World}{ps:List RPc}{A:Option Addr}{n c:Nat}(h:RRow w wr ps A n c)(k:Nat):RRow w (wr.drewN k) ps A n c:=⟨h.len,owns_below h.row (below_drewN bR k),below_drewN h.bel k,h.kinds⟩
def wUp (t:BA)(k:Nat):Int:=match wordIx (bl t) with | some i=>if i<k then i else -1 | none=>-1
theorem wUp_zero (t:BA):wUp t 0=-1:=by unfold wUp;split<;>simp
theorem ixOf_at (x:LU):∀ (l:List (LU))(k:Nat),ixOf l x=some k→l[k]?=some x
 | [],k,h=>by simp[ixOf] at h
 | a::r,k,h=>by
  unfold ixOf at h
  split at h
  ·rename_i e;injection h with h;subst h;simp[e]
  ·obtain⟨j,hj,rfl⟩:=Option.map_eq_some_iff.1 h
   simpa using ixOf_at x r j hj
theorem word_self (k:Nat)(h:k<9):wordIx (bl (vWord k))=some k:=by
 rcases(by omega:k=0∨k=1∨k=2∨k=3∨k=4∨k=5∨k=6∨k=7∨k=8) with rfl | rfl | rfl | rfl | rfl | rfl | rfl | rfl | rfl<;>decide
theorem wUp_hit {t:BA}{k:Nat}(hk:k<9)(h:vWord k=t):wUp t (k+1)=k:=by
 subst h;unfold wUp;rw[word_self k hk];simp
theorem wUp_miss {t:BA}{k:Nat}(hk:k<9)(h:¬ vWord k=t):wUp t (k+1)=wUp t k:=by
 unfold wUp
 cases hw:wordIx (bl t) with
 | none=>rfl
 | some i=>
  have hne:i≠k:=by
   rintro rfl
   have:=ixOf_at _ _ _ hw
   rw[aWords_at i hk] at this
   injection this with this
   exact h (bl_inj this)
  show(if i<k+1 then (i:Int) else -1)=if i<k then (i:Int) else -1
  by_cases hi:i<k
  ·rw[if_pos hi,if_pos (by omega)]
  ·rw[if_neg hi,if_neg (by omega)]
theorem wUp_all (t:BA):wUp t 9=wIx t:=by
 unfold wUp wIx
 cases hw:wordIx (bl t) with
 | none=>rfl
 | some i=>show(if i<9 then (i:Int) else -1)=_;rw[if_pos (wordIx_lt hw)]
theorem r12_pieces (s:BA)(w:World)(hs:s.size≤64):
  Calls Tryz.prog 143 #[.string s] w (RPost s w):=by
 obtain⟨i0,hi0,hz0,hz1,hz2⟩:=info_parts info_rpiece
 go_enter Tryz.func143,Tryz.ntmps143
 go_upto_block 0 with(fail)
 go_cut [0,3] (fun s0 s3 wx=>∃ (ps:List RPc) (A:Option Addr) (n c:Nat) (a:List Pc) (r:BA),s3=.slice A n c∧s0=.string r∧n+r.size≤s.size∧0<n∧Hid (RRow w wx ps A n c)∧Hid (numsA (s.size+1) 7 [] (bl s)=some (a,bl r)))
 case first=>
  go_wp2_with fail
  go_loopw [0,3] (fun s0 s3 wr=>∃ (ps:List RPc) (A:Option Addr) (n c:Nat) (kd:Int) (a:List Pc) (r:BA) (k:Nat),s3=.slice A n c∧s0=.string r∧n+r.size≤s.size∧Hid (RRow w wr ps A n c)∧Hid (numsA (s.size+1) 7 [] (bl s)=numsA (k+1) kd a (bl r))∧Hid (r.size≤k)) (fun s0 _ _=>szV s0)
  case atStart=>exact⟨[],none,0,0,7,[],s,s.size,rfl,rfl,by omega,⟨rfl,World.ownsRow_nil _ _ _ _,bR,by simp⟩,rfl,lr⟩
  case round=>
   obtain⟨ps,A,n,c,kd,a,r,k,rfl,rfl,hnr,HR,HN,HK⟩:=hrel
   obtain⟨m,hm⟩:∃ m,runN digB (bl r)=m:=⟨_,rfl⟩
   have HM:=hid hm
   have hmr:m≤r.size:=by have:=runN_le digB (bl r);rw[hm,bl_length] at this;exact this
   clear hm
   by_cases h0:m=0
   ·have t0:((m:Int)==0)=true:=by rw[h0];rfl
    have E:Hid (splitP (bl s)=none):=splitP_nums (by rw[bl_length,HN.out,numsA_none (HM.out.trans h0)])
    clear h0
    go_wp2_with fail
    refine(r12_Digits_is r m _ (by omega) HM).mono ?_;rintro e w' ⟨rfl,rfl⟩
    go_wp2_with fail
    go_ret
    exact rpost_no E.out HR.out.bel
   ·have t0:((m:Int)==0)=false:=by simp;omega
    have i1:(m:Int)≤(r.size:Int):=by omega
    have HZ:=hid (size_drop r m)
    have HQ:=hid (bl_drop r m)
    go_wp2_with fail
    refine(r12_Digits_is r m _ (by omega) HM).mono ?_;rintro e w' ⟨rfl,rfl⟩
    go_wp2_with (at_builtin;refine wpList_append_any _ rfl _ _ _ rfl w.heap.size 188 i0 _ 3 32 Tryz.underlying185 hi0 hz0 hz1 hz2 rfl (by omega) (.slice A n c) n _ rfl (HR.out.row.alloc _) (wr.heap.size+1) (some ⟨wr.heap.size,0,none⟩) 1 1 [.int .i64 6,.int .i64 0,.string (r.extract 0 m)] rfl (reads_new3p wr _ _ _ _) (by simp[Value.oneCell']) (by simp only[maxLen];omega) (by omega) (by simp;have:=HR.out.bel.size;omega) ?_;intro v1 w1 o1 g1 a1)
    obtain⟨A1,c1,rfl⟩:=owns_form o1
    have R1:=hid (HR.out.grow (x:=⟨6,0,r.extract 0 m⟩) (by simp) o1 g1)
    clear o1 g1 a1 HR
    generalize r.extract m r.size=q at *
    cases hh:head0 46 (bl q) with
    | false=>
     have HH:=hid hh;clear hh
     go_wp2_with fail
     refine(r12_has_is q 46 _ _ (by rw[HZ.out];omega) HH).mono ?_;rintro e w' ⟨rfl,rfl⟩
     go_wp2_with fail
     go_meet
     exact⟨_,A1,n+1,c1,_,_,rfl,rfl,by rw[HZ.out];omega,by omega,R1,by show _=_;rw[HN.out,numsA_stop HM.out h0 (by rw[←HQ.out];exact head0_no HH.out),HQ.out]⟩
    | true=>
     have HH:=hid hh;clear hh
     have hp:=head0_pos HH.out
     have i2:(1:Int)≤(q.size:Int):=by omega
     have HZ2:=hid (size_drop q 1)
     go_wp2_with fail
     refine(r12_has_is q 46 _ _ (by rw[HZ.out];omega) HH).mono ?_;rintro e w' ⟨rfl,rfl⟩
     go_wp2_with fail
     go_roundw
     case rel=>exact⟨_,A1,n+1,c1,6,_,_,k-1,rfl,rfl,by have hzz:=HZ.out;rw[HZ2.out];omega,R1,by
      show _=_
      have hk:=HK.out
      have e1:k-1+1=k:=by omega
      rw[HN.out,numsA_more HM.out h0 (by rw[←HQ.out];exact head0_yes HH.out),e1,bl_drop q],hid (by have:=HK.out;have hzz:=HZ.out;rw[HZ2.out];omega)⟩
     case measure=>have hzz:=HZ.out;simp only[szV];rw[HZ2.out];omega
 case rest=>
 obtain⟨ps,A,n,c,a,r,rfl,rfl,hnr,hn0,HR,HN⟩:=hcut
 go_upto_region 9 with(fail)
 go_cut [43] (fun v wx=>v=.bool (lt0 (bl r))∧wc=wx)
 case first=>
  by_cases h0:0<r.size
  ·by_cases h1:97≤r[0].toNat
   ·by_cases h2:r[0].toNat≤122
    ·have E:Hid (lt0 (bl r)=true):=by show _=_;rw[bl_cons r h0];exact dT ⟨h1,h2⟩
     go_wp2_with fail
     go_meet
     exact⟨by rw[E.out];congr 1;exact dT (by omega),rfl⟩
    ·have E:Hid (lt0 (bl r)=false):=by show _=_;rw[bl_cons r h0];exact dF (by omega)
     go_wp2_with fail
     go_meet
     exact⟨by rw[E.out];congr 1;exact dF (by omega),rfl⟩
   ·have E:Hid (lt0 (bl r)=false):=by show _=_;rw[bl_cons r h0];exact dF (by omega)
    go_wp2_with fail
    go_meet
    exact⟨by rw[E.out],rfl⟩
  ·have E:Hid (lt0 (bl r)=false):=by show _=_;rw[bl_nil r (by omega)];rfl
   go_wp2_with fail
   go_meet
   exact⟨by rw[E.out],rfl⟩
 case rest=>
 obtain⟨rfl,rfl⟩:=hcut
 go_upto_if 43 with(fail)
 go_cut [0,3] (fun s0 s3 wx=>∃ (ps:List RPc) (A:Option Addr) (n c:Nat) (a:List Pc) (r:BA),s3=.slice A n c∧s0=.string r∧n+r.size≤s.size∧0<n∧Hid (RRow w wx ps A n c)∧Hid (splitP (bl s)=spT (r.size+1) (bl s) a (bl r)))
 case first=>
  cases hl:lt0 (bl r) with
  | false=>
   have E:Hid (splitP (bl s)=spT (r.size+1) (bl s) a (bl r)):=by show _=_;rw[spT_no (by rw[bl_length];exact HN.out) hl,bl_length]
   clear hl
   go_wp2_with fail
   go_meet
   exact⟨ps,A,n,c,a,r,rfl,rfl,hnr,hn0,HR,E⟩
  | true=>
   have hp:=lt0_pos hl
   have HZ:=hid (size_drop r 1)
   have E:Hid (splitP (bl s)=spT ((r.extract 1 r.size).size+1) (bl s) (a++[⟨5,(bl r).take 1,0⟩]) (bl (r.extract 1 r.size))):=by show _=_;rw[spT_yes (by rw[bl_length];exact HN.out) hl,List.length_drop,bl_length,bl_drop,HZ.out]
   clear hl
   have i1:(1:Int)≤(r.size:Int):=by omega
   go_wp2_with (at_builtin;refine wpList_append_any _ rfl _ _ _ rfl w.heap.size 188 i0 _ 3 32 Tryz.underlying185 hi0 hz0 hz1 hz2 rfl (by omega) (.slice A n c) n _ rfl (HR.out.row.alloc _) (wc.heap.size+1) (some ⟨wc.heap.size,0,none⟩) 1 1 [.int .i64 5,.int .i64 0,.string (r.extract 0 1)] rfl (reads_new3p wc _ _ _ _) (by simp[Value.oneCell']) (by simp only[maxLen];omega) (by omega) (by simp;have:=HR.out.bel.size;omega) ?_;intro v1 w1 o1 g1 a1)
   obtain⟨A1,c1,rfl⟩:=owns_form o1
   have R1:=hid (HR.out.grow (x:=⟨5,0,r.extract 0 1⟩) (by simp) o1 g1)
   clear o1 g1 a1 HR
   go_meet
   exact⟨_,A1,n+1,c1,_,_,rfl,rfl,by rw[HZ.out];omega,by omega,R1,E⟩
 case rest=>
 obtain⟨ps,A,n,c,a,r,rfl,rfl,hnr,hn0,HR,HN⟩:=hcut
 go_wp2_with fail
 go_loopw [0,3] (fun s0 s3 wr=>∃ (ps:List RPc) (A:Option Addr) (n c:Nat) (a:List Pc) (r:BA) (k:Nat),s3=.slice A n c∧s0=.string r∧n+r.size≤s.size∧0<n∧Hid (RRow w wr ps A n c)∧Hid (splitP (bl s)=spT (k+1) (bl s) a (bl r))∧Hid (r.size≤k)) (fun s0 _ _=>szV s0)
 case atStart=>exact⟨ps,A,n,c,a,r,r.size,rfl,rfl,hnr,hn0,HR,HN,lr⟩
 case round=>
  clear hnr hn0 HR HN
  obtain⟨ps,A,n,c,a,r,k,rfl,rfl,hnr,hn0,HR,HN,HK⟩:=hrel
  cases hh:head0 95 (bl r) with
  | true=>
   have HH:=hid hh;clear hh
   have hp:=head0_pos HH.out
   have i1:(1:Int)≤(r.size:Int):=by omega
   have HZ:=hid (size_drop r 1)
   have HQ:=hid (bl_drop r 1)
   obtain⟨m,hm⟩:∃ m,runN letB (bl (r.extract 1 r.size))=m:=⟨_,rfl⟩
   have HM:=hid hm
   have hmr:1+m≤r.size:=by have:=runN_le letB (bl (r.extract 1 r.size));rw[hm,bl_length,size_drop] at this;omega
   clear hm
   have hcell:=fun t=>hid (wat_new wr t)
   go_wp2_with fail
   refine(r12_has_is r 95 _ _ (by omega) HH).mono ?_;rintro e w' ⟨rfl,rfl⟩
   go_wp2_with fail
   refine(r12_letters_is (r.extract 1 r.size) m _ (by rw[HZ.out];omega) HM).mono ?_;rintro e w' ⟨rfl,rfl⟩
   go_wp2_with fail
   refine(r12_words _).mono ?_;rintro e w' ⟨t,rfl,rfl⟩
   have HW:=hcell t
   have HR2:=hid (HR.out.alloc (.cells wordCells.toArray t))
   go_wp2_with fail
   obtain⟨T,hT⟩:∃ T,r.extract 1 (1+m)=T:=⟨_,rfl⟩
   have HT:=hid hT;clear hT
   go_loopw [6,8] (fun i6 i8 wx=>∃ j:Nat,j≤9∧i8=.int .i64 j∧i6=.int .i64 (wUp T j)∧Hid (RRow w wx ps A n c)∧Hid (WAt wx wr.heap.size)) (fun _ i8 _=>9-(intOf i8).toNat)
   case atStart=>exact⟨0,by omega,rfl,by rw[wUp_zero],HR2,HW⟩
   case round=>
    clear HR2 HW hcell
    obtain⟨j,hj,rfl,rfl,HR2,HW⟩:=hrel
    by_cases hlt:j<9
    ·have hc:=HW.out j hlt
     cases hE:((vWord j).toList==(r.extract 1 (1+m)).toList)
     ·have HU:Hid (wUp T (j+1)=wUp T j):=wUp_miss hlt (by rw[←HT.out];rw[beq_bl] at hE;exact of_decide_eq_false hE)
      go_wp2_with fail
      go_quiet (fail)
      go_wp2_with fail
      go_roundw
      case rel=>exact⟨j+1,by omega,by go_num,by rw[HU.out],HR2.out.drewN _,HW.out.drewN _⟩
      case measure=>simp[intOf];omega
     ·have HU:Hid (wUp T (j+1)=j):=wUp_hit hlt (by rw[←HT.out];rw[beq_bl] at hE;exact dO hE)
      go_wp2_with fail
      go_quiet (fail)
      go_wp2_with fail
      go_roundw
      case rel=>exact⟨j+1,by omega,by go_num,by rw[HU.out],HR2.out.drewN _,HW.out.drewN _⟩
      case measure=>simp[intOf];omega
    ·obtain rfl:j=9:=by omega
     clear HW HR
     have HY:=hid (head0_yes HH.out)
     have HTB:Hid ((bl (r.extract 1 r.size)).take m=bl T):=by show _=_;rw[HQ.out,←HT.out,bl_mid]
     cases hw:wordIx (bl T) with
     | none=>
      have hv:wUp T 9=-1:=by rw[wUp_all];unfold wIx;rw[hw]
      have E:Hid (splitP (bl s)=none):=by
       show _=_
       have hk:=HK.out
       rw[HN.out,show k+1=k-1+1+1 by omega,HY.out,←HQ.out]
       unfold spT
       rw[word_gone (by rw[HM.out,HTB.out];exact hw)];rfl
      clear hw
      rw[hv]
      go_wp2_with fail
      go_ret
      exact rpost_no E.out HR2.out.bel
     | some i=>
      have hv:wUp T 9=(i:Int):=by rw[wUp_all];unfold wIx;rw[hw]
      have hi9:=wordIx_lt hw
      have HI:=hid hw;clear hw
      have HS:Hid (runN smlB (bl (r.extract 1 r.size))=m):=by
       show _=_
       rw[run_small_let _ (by rw[HM.out,HTB.out,HI.out];simp),HM.out]
      rw[hv]
      clear hv
      go_upto_if 77 with(fail)
      go_cut [9] (fun v wx=>v=.int .i64 (kindW i)∧wr=wx)
      case first=>
       by_cases h4:i<4
       ·have E:Hid (kindW i=0):=by show _=_;unfold kindW;rw[if_neg (by omega)]
        go_wp2_with fail
        go_meet
        exact⟨by rw[E.out],rfl⟩
       ·have E:Hid (kindW i=4):=by show _=_;unfold kindW;rw[if_pos (by omega)]
        go_wp2_with fail
        go_meet
        exact⟨by rw[E.out],rfl⟩
      case rest=>
      obtain⟨rfl,rfl⟩:=hcut
      have i2:(1:Int)+(m:Int)≤(r.size:Int):=by omega
      have HZ2:=hid (size_drop r (1+m))
      have HQ2:Hid (bl (r.extract (1+m) r.size)=(bl (r.extract 1 r.size)).drop m):=by show _=_;rw[bl_drop,HQ.out,List.drop_drop]
      have iw:IntKind.i64.wrap (1+(m:Int))=1+(m:Int):=IntWalk.i64_in _ (by omega)
      go_wp2_with (at_builtin;refine wpList_append_any _ rfl _ _ _ rfl w.heap.size 188 i0 _ 3 32 Tryz.underlying185 hi0 hz0 hz1 hz2 rfl (by omega) (.slice A n c) n _ rfl (HR2.out.row.alloc _) (wr.heap.size+1) (some ⟨wr.heap.size,0,none⟩) 1 1 [.int .i64 (kindW i),.int .i64 i,.string ⟨#[]⟩] rfl (reads_new3p wr _ _ _ _) (by simp[Value.oneCell']) (by simp only[maxLen];omega) (by omega) (by simp;have:=HR2.out.bel.size;omega) ?_;intro v1 w1 o1 g1 a1)
      obtain⟨A1,c1,rfl⟩:=owns_form o1
      have R1:=hid (HR2.out.grow (x:=⟨kindW i,i,⟨#[]⟩⟩) (by unfold kindW;split<;>simp) o1 g1)
      clear o1 g1 a1 HR2
      obtain⟨d,hd⟩:∃ d,runN digB (bl (r.extract (1+m) r.size))=d:=⟨_,rfl⟩
      have HD:=hid hd;clear hd
      have HN2:Hid (splitP (bl s)=spT (k-1+1) (bl s) (a++[⟨kindW i,(bl (r.extract 1 r.size)).take m,i⟩]++(if 0<d then [⟨3,((bl (r.extract 1 r.size)).drop m).take d,0⟩] else [])) ((bl (r.extract (1+m) r.size)).drop d)):=by
       show _=_
       have hk:=HK.out
       rw[HN.out,show k-1+1=k by omega,HY.out,←HQ.out]
       unfold spT tailA
       rw[sufsA_more (m:=d) HS.out (by rw[HTB.out];exact HI.out) (by rw[←HQ2.out];exact HD.out),HQ2.out]
      have HK2:Hid (r.size-1≤k-1):=by have:=HK.out;show _≤_;omega
      have hdq:d≤(r.extract (1+m) r.size).size:=by have:=runN_le digB (bl (r.extract (1+m) r.size));rw[HD.out,bl_length] at this;exact this
      clear HK HN HQ HQ2 HTB HS HM HT HY iw i2
      generalize r.extract (1+m) r.size=q at *
      generalize (a++[(⟨kindW i,(bl (r.extract 1 r.size)).take m,i⟩:Pc)]++(if 0<d then [⟨3,((bl (r.extract 1 r.size)).drop m).take d,0⟩] else []))=ac at *
      by_cases hd0:d=0
      ·have t0:decide ((0:Int)<(d:Int))=false:=dF (by omega)
       go_wp2_with fail
       refine(r12_Digits_is q d _ (by rw[HZ2.out];omega) HD).mono ?_;rintro e w' ⟨rfl,rfl⟩
       go_wp2_with fail
       go_roundw
       case rel=>exact⟨_,A1,n+1,c1,ac,q,k-1,rfl,rfl,by rw[HZ2.out];omega,by omega,R1,by show _=_;rw[HN2.out,hd0,List.drop_zero],hid (by have:=HK2.out;rw[HZ2.out];omega)⟩
       case measure=>simp only[szV];rw[HZ2.out];omega
      ·have t0:decide ((0:Int)<(d:Int))=true:=dT (by omega)
       have i3:(d:Int)≤(q.size:Int):=by omega
       have HZ3:=hid (size_drop q d)
       go_wp2_with fail
       refine(r12_Digits_is q d _ (by rw[HZ2.out];omega) HD).mono ?_;rintro e w' ⟨rfl,rfl⟩
       have hq64:Hid (q.size≤64):=by show _≤_;rw[HZ2.out];omega
       go_wp2_with (at_builtin;refine wpList_append_any _ rfl _ _ _ rfl w.heap.size 188 i0 _ 3 32 Tryz.underlying185 hi0 hz0 hz1 hz2 rfl (by omega) (.slice A1 (n+1) c1) (n+1) _ rfl (R1.out.row.alloc _) (w1.heap.size+1) (some ⟨w1.heap.size,0,none⟩) 1 1 [.int .i64 3,.int .i64 0,.string (q.extract 0 d)] rfl (reads_new3p w1 _ _ _ _) (by simp[Value.oneCell']) (by simp only[maxLen];omega) (by omega) (by simp;have:=R1.out.bel.size;omega) ?_;intro v2 w2 o2 g2 a2)
       obtain⟨A2,c2,rfl⟩:=owns_form o2
       have R2:=hid (R1.out.grow (x:=⟨3,0,q.extract 0 d⟩) (by simp) o2 g2)
       clear o2 g2 a2 R1
       go_roundw
       case rel=>exact⟨_,A2,n+1+1,c2,ac,q.extract d q.size,k-1,rfl,rfl,by have:=HZ2.out;rw[HZ3.out];omega,by omega,R2,by show _=_;rw[HN2.out,bl_drop],hid (by have:=HK2.out;have:=HZ2.out;rw[HZ3.out];omega)⟩
       case measure=>have:=HZ2.out;simp only[szV];rw[HZ3.out];omega
  | false=>
   have HH:=hid hh;clear hh
   have HE:Hid (splitP (bl s)=(endA (bl s) a (bl r)).map fun x=>([],x.2.1,x.2.2)):=by show _=_;rw[HN.out,spT_end HH.out]
   clear HN HK
   by_cases hr0:r.size=0
   ·have he:r.toList=[]:=by rw[bl_toList,bl_nil r hr0]
    have he2:r.toList.isEmpty=true:=by rw[he];rfl
    have E:Hid (splitP (bl s)=some ([],bl s,[])):=by show _=_;rw[HE.out,bl_nil r hr0];rfl
    clear HE
    go_wp2_with fail
    refine(r12_has_is r 95 _ _ (by omega) HH).mono ?_;rintro e w' ⟨rfl,rfl⟩
    go_wp2_with fail
    go_ret
    exact rpost_plain E.out HR.out hn0 (by omega)
   have hne:¬ r.toList=[]:=by rw[bl_toList];intro e;have:=congrArg List.length e;rw[bl_length] at this;exact hr0 this
   have hne2:r.toList.isEmpty=false:=by rw[bl_toList,bl_isEmpty];exact dF hr0
   have hbn:Hid (bl r≠[]):=by show bl r≠[];intro e;have:=congrArg List.length e;rw[bl_length] at this;exact hr0 this
   by_cases h2:2<r.size
   ·by_cases hb:(r.extract 0 2).toList=[45,114]
    ·have HB:Hid (bl r=45::114::bl (r.extract 2 r.size)):=by
      show _=_
      have h1:(bl r).take 2=[45,114]:=by rw[←bl_take,←bl_toList];exact hb
      rw[bl_drop]
      conv=>lhs;rw[←List.take_append_drop 2 (bl r),h1]
      rfl
     have HZ:=hid (size_drop r 2)
     obtain⟨d,hd⟩:∃ d,runN digB (bl (r.extract 2 r.size))=d:=⟨_,rfl⟩
     have HD:=hid hd;clear hd
     have hdr:2+d≤r.size:=by have:=runN_le digB (bl (r.extract 2 r.size));rw[HD.out,bl_length,HZ.out] at this;omega
     have i2:(2:Int)≤(r.size:Int):=by omega
     by_cases hd0:d=0
     ·have t0:decide ((0:Int)<(d:Int))=false:=dF (by omega)
      have E:Hid (splitP (bl s)=none):=by
       show _=_
       rw[HE.out,endA_gone hbn.out (by
        intro t e
        rw[HB.out] at e;injection e with _ e;injection e with _ e
        rw[←e];exact numB_short (HD.out.trans hd0))];rfl
      clear HE
      go_wp2_with fail
      refine(r12_has_is r 95 _ _ (by omega) HH).mono ?_;rintro e w' ⟨rfl,rfl⟩
      go_wp2_with fail
      refine(r12_Digits_is (r.extract 2 r.size) d _ (by rw[HZ.out];omega) HD).mono ?_;rintro e w' ⟨rfl,rfl⟩
      go_wp2_with fail
      go_ret
      exact rpost_no E.out HR.out.bel
     ·have t0:decide ((0:Int)<(d:Int))=true:=dT (by omega)
      have iw:IntKind.i64.wrap (2+(d:Int))=2+(d:Int):=IntWalk.i64_in _ (by omega)
      have i3:(2:Int)+(d:Int)≤(r.size:Int):=by omega
      have HZ4:=hid (size_drop r (2+d))
      by_cases hf:2+d=r.size
      ·have hx:(r.extract (2+d) r.size).toList=[]:=by rw[bl_toList,bl_nil _ (by rw[HZ4.out];omega)]
       have hx2:(r.extract (2+d) r.size).toList.isEmpty=true:=by rw[hx];rfl
       have HNB:Hid (numB (bl (r.extract 2 r.size))=true):=numB_full (by rw[HD.out,bl_length,HZ.out];omega) (by rw[bl_length,HZ.out];omega)
       have E:Hid (splitP (bl s)=some ([],(bl s).take (s.size-r.size),bl (r.extract 2 r.size))):=by
        show _=_
        rw[HE.out,HB.out,endA,if_pos HNB.out,←HB.out,bl_length,bl_length];rfl
       have ET:Hid (bl (r.extract 2 (2+d))=bl (r.extract 2 r.size)):=by show _=_;rw[hf]
       have EZ:Hid ((r.extract 2 (2+d)).size=d):=by show _=_;rw[hf,HZ.out];omega
       have HF:=hid hf
       clear HE hf
       go_wp2_with fail
       refine(r12_has_is r 95 _ _ (by omega) HH).mono ?_;rintro e w' ⟨rfl,rfl⟩
       go_wp2_with fail
       refine(r12_Digits_is (r.extract 2 r.size) d _ (by rw[HZ.out];omega) HD).mono ?_;rintro e w' ⟨rfl,rfl⟩
       go_wp2_with fail
       refine(r12_Digits_is (r.extract 2 r.size) d _ (by rw[HZ.out];omega) HD).mono ?_;rintro e w' ⟨rfl,rfl⟩
       go_wp2_with (at_builtin;refine wpList_append_any _ rfl _ _ _ rfl w.heap.size 188 i0 _ 3 32 Tryz.underlying185 hi0 hz0 hz1 hz2 rfl (by omega) (.slice A n c) n _ rfl (HR.out.row.alloc _) (wr.heap.size+1) (some ⟨wr.heap.size,0,none⟩) 1 1 [.int .i64 2,.int .i64 0,.string (r.extract 2 (2+d))] rfl (reads_new3p wr _ _ _ _) (by simp[Value.oneCell']) (by simp only[maxLen];omega) (by omega) (by simp;have:=HR.out.bel.size;omega) ?_;intro v1 w1 o1 g1 a1)
       obtain⟨A1,c1,rfl⟩:=owns_form o1
       have B1:Below w.heap.size w w1:=(HR.out.bel.alloc HR.out.bel.size _).grown g1 (by have:=HR.out.bel.size;simp;omega) (fun j hj=>by have:=(HR.out.row.lt j hj).1;omega)
       go_ret
       refine⟨B1,?_⟩
       rw[E.out]
       refine⟨A1,n,c1,ps,⟨2,0,r.extract 2 (2+d)⟩,rfl,HR.out.len,?_,by omega,.inl ⟨rfl,ET.out,?_,?_⟩⟩
       ·rw[List.flatMap_append];exact owns_rd o1
       ·show _=List.take (s.size-(r.extract 2 (2+d)).size-2) (bl s)
        rw[EZ.out];have:=HF.out;congr 1;omega
       ·show(r.extract 2 (2+d)).size+2≤s.size
        rw[EZ.out];omega
      ·have hx:¬ (r.extract (2+d) r.size).toList=[]:=by
        rw[bl_toList];intro e;have:=congrArg List.length e;rw[bl_length,HZ4.out] at this;have:r.size-(2+d)=0:=this;omega
       have hx2:(r.extract (2+d) r.size).toList.isEmpty=false:=by rw[bl_toList,bl_isEmpty];exact dF (by rw[HZ4.out];omega)
       have E:Hid (splitP (bl s)=none):=by
        show _=_
        rw[HE.out,endA_gone hbn.out (by
         intro t e
         rw[HB.out] at e;injection e with _ e;injection e with _ e
         rw[←e];exact numB_part (by rw[HD.out,bl_length,HZ.out];omega))];rfl
       clear HE
       go_wp2_with fail
       refine(r12_has_is r 95 _ _ (by omega) HH).mono ?_;rintro e w' ⟨rfl,rfl⟩
       go_wp2_with fail
       refine(r12_Digits_is (r.extract 2 r.size) d _ (by rw[HZ.out];omega) HD).mono ?_;rintro e w' ⟨rfl,rfl⟩
       go_wp2_with fail
       refine(r12_Digits_is (r.extract 2 r.size) d _ (by rw[HZ.out];omega) HD).mono ?_;rintro e w' ⟨rfl,rfl⟩
       go_wp2_with (at_builtin;refine wpList_append_any _ rfl _ _ _ rfl w.heap.size 188 i0 _ 3 32 Tryz.underlying185 hi0 hz0 hz1 hz2 rfl (by omega) (.slice A n c) n _ rfl (HR.out.row.alloc _) (wr.heap.size+1) (some ⟨wr.heap.size,0,none⟩) 1 1 [.int .i64 2,.int .i64 0,.string (r.extract 2 (2+d))] rfl (reads_new3p wr _ _ _ _) (by simp[Value.oneCell']) (by simp only[maxLen];omega) (by omega) (by simp;have:=HR.out.bel.size;omega) ?_;intro v1 w1 o1 g1 a1)
       obtain⟨A1,c1,rfl⟩:=owns_form o1
       have B1:Below w.heap.size w w1:=(HR.out.bel.alloc HR.out.bel.size _).grown g1 (by have:=HR.out.bel.size;simp;omega) (fun j hj=>by have:=(HR.out.row.lt j hj).1;omega)
       go_ret
       exact rpost_no E.out B1
    ·have E:Hid (splitP (bl s)=none):=by
      show _=_
      rw[HE.out,endA_gone hbn.out (by
       intro t e
       exfalso
       refine hb ?_
       rw[bl_toList,bl_take,e];rfl)];rfl
     clear HE
     go_wp2_with fail
     refine(r12_has_is r 95 _ _ (by omega) HH).mono ?_;rintro e w' ⟨rfl,rfl⟩
     go_wp2_with fail
     go_ret
     exact rpost_no E.out HR.out.bel
   ·have E:Hid (splitP (bl s)=none):=by
     show _=_
     rw[HE.out,endA_gone hbn.out (by
      intro t e
      have:=congrArg List.length e
      rw[bl_length] at this
      cases t with
      | nil=>rfl
      | cons _ _=>simp at this;omega)];rfl
    clear HE
    go_wp2_with fail
    refine(r12_has_is r 95 _ _ (by omega) HH).mono ?_;rintro e w' ⟨rfl,rfl⟩
    go_wp2_with fail
    go_ret
    exact rpost_no E.out HR.out.bel
end
end Go.Proofs.YtdfdllbebfoggaaGreatDoor
