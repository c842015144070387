/- A part of the proof. -/
import Derived.Test.YtaohgmcbpafdeaaGreatDoorA16
import Derived.Test.YtaohgmcbpafdeaaGreatDoorA31
import Derived.Test.YtaohgmcbpafdeaaGreatDoorA32
set_option maxRecDepth 100000
set_option maxHeartbeats 20000000
set_option linter.unusedVariables false
set_option linter.unusedSimpArgs false
namespace Go.Proofs.YtaohgmcbpafdeaaGreatDoor
section
open Go.RowKit Go.Deep
theorem FZ:(Tryz.prog.info? 220).map (fun i=>(i.zero,i.size,i.bytes))=some (some (.agg #[.string ⟨#[]⟩,.int .i64 0,.string ⟨#[]⟩,.string ⟨#[]⟩,.slice none 0 0]),5,80):=by kernel_rfl
theorem Jh:(Tryz.prog.info? 218).map (fun i=>(i.zero,i.size,i.bytes))=some (some (.slice none 0 0),1,24):=by kernel_rfl
theorem sT (w:World)(t:TypeId)(a b c d e:Value):iF (w.alloc (.cells #[a,b,c,d,e] t)) (w.heap.size+1) 5 (some ⟨w.heap.size,0,none⟩) 1 [a,b,c,d,e]:=by
 refine⟨rfl,fun _=>⟨_,rfl,by simp,fun j u hu=>?_⟩⟩
 match j,hu with
 | 0,hu=>simp at hu;subst hu;simp[Addr.add]
 | 1,hu=>simp at hu;subst hu;simp[Addr.add]
 | 2,hu=>simp at hu;subst hu;simp[Addr.add]
 | 3,hu=>simp at hu;subst hu;simp[Addr.add]
 | 4,hu=>simp at hu;subst hu;simp[Addr.add]
 | j+5,hu=>simp at hu
theorem kn {w w2:World}{lo lo':Nat}{e1 e2:TypeId}{z1 z2 n1 n2:Nat}{v1 v2:Value}{x1 x2:LV}(h1:w.ownsRow lo e1 z1 v1 n1 x1)(h2:w.ownsRow lo' e2 z2 v2 n2 x2)(hne:e1≠e2)(hg:w.grownBy w2 v2.ownBlock):w2.ownsRow lo e1 z1 v1 n1 x1:=
 h1.kept hg (Bk h1 h2 hne)
structure Ia (w wr:World) (a:Nat) (s:BA) (k n:Nat) (c:Int) (ts:List cA) (A:OA) (m cc:Nat):Prop where
 len:ts.length=m
 row:wr.ownsRow w.heap.size 220 5 (.slice A m cc) m (ts.flatMap cA.cells)
 archs:∀ t∈ts,t.own wr w.heap.size
 dr:DR wr a s k n c
 gr:w.grownBy wr (some a)
 lt:a<w.heap.size
theorem Ia.step {w wr w':World}{a:Nat}{s:BA}{k k' n n':Nat}{c c':Int}{ts:List cA}{A:OA}{m cc:Nat}(h:Ia w wr a s k n c ts A m cc)(hg:wr.grownBy w' (some a))(hd:DR w' a s k' n' c'):Ia w w' a s k' n' c' ts A m cc:=
 ⟨h.len,bN h.row h.lt hg,fun t ht=>(h.archs t ht).kept h.lt hg,hd,ai h.gr hg,h.lt⟩
theorem Ia.alloc {w wr:World}{a:Nat}{s:BA}{k n:Nat}{c:Int}{ts:List cA}{A:OA}{m cc:Nat}(h:Ia w wr a s k n c ts A m cc)(o:Obj):Ia w (wr.alloc o) a s k n c ts A m cc:=
 ⟨h.len,h.row.alloc o,fun t ht=>(h.archs t ht).below (bR.alloc lr o),h.dr.alloc o,kb h.gr o,h.lt⟩
theorem Ia.grow {w wr w2:World}{a:Nat}{s:BA}{k n:Nat}{c:Int}{ts:List cA}{A A1:OA}{m cc c1:Nat}{o1 o2:Obj}{T:cA}(h:Ia w wr a s k n c ts A m cc)(hT:T.own wr w.heap.size)
  (hr:w2.ownsRow w.heap.size 220 5 (.slice A1 (m+1) c1) (m+1) (ts.flatMap cA.cells++T.cells))
  (hg:((wr.alloc o1).alloc o2).grownBy w2 (Value.slice A m cc).ownBlock):Ia w w2 a s k n c (ts++[T]) A1 (m+1) c1:=by
 have ho:=(h.alloc o1).alloc o2
 have hT':T.own ((wr.alloc o1).alloc o2) w.heap.size:=(hT.below (bR.alloc lr o1)).below (bR.alloc lr o2)
 refine⟨by simp[h.len],by rw[List.flatMap_append];simpa using hr,fun t ht=>?_,ho.dr.kept hg ?_,gu ho.gr hg (fun j hj=>(h.row.lt j hj).1),h.lt⟩
 ·rcases List.mem_append.1 ht with ht | ht
  ·exact kn (ho.archs t ht) ho.row (by decide) hg
  ·obtain rfl:=List.mem_singleton.1 ht
   exact kn hT' ho.row (by decide) hg
 ·intro e;have:=(h.row.lt a e.symm).1;have:=h.lt;omega
def gw (r:Option (List du×LU))(a:Nat)(s:BA)(p n:Nat)(c:Int)(w:World)(e:Ending)(w':World):Prop:=
 w.grownBy w' (some a)∧match r with
  | none=>e=.returned (.tuple #[.slice none 0 0,.bool false])∧∃ (p' n':Nat) (c':Int),DR w' a s p' n' c'
  | some (g,r)=>∃ (G:bj) (p':Nat) (c':Int),e=.returned (.tuple #[.slice G.ga G.ts.length G.gc,.bool true])∧G.pl=g∧G.own w' w.heap.size∧DR w' a s p' (n+g.length) c'∧p<p'∧(bl s).drop p'=r∧(c'=0↔c=0∧g.all du.right=true∧n+g.length≤64)
theorem gw.no {r:Option (List du×LU)}{a:Nat}{s:BA}{p n p' n':Nat}{c c':Int}{w w':World}(hr:r=none)(hg:w.grownBy w' (some a))(h:DR w' a s p' n' c'):gw r a s p n c w (.returned (.tuple #[.slice none 0 0,.bool false])) w':=by
 subst hr;exact⟨hg,rfl,p',n',c',h⟩
theorem gw.yes {r:Option (List du×LU)}{a:Nat}{s:BA}{p n p':Nat}{c c':Int}{w w':World}{ts:List cA}{A:OA}{m cc:Nat}(hr:r=some (ts.map cA.pl,(bl s).drop p'))(h:Ia w w' a s p' (n+m) c' ts A m cc)(hp:p<p')(hc:c'=0↔c=0∧(ts.map cA.pl).all du.right=true∧n+m≤64):gw r a s p n c w (.returned (.tuple #[.slice A m cc,.bool true])) w':=by
 subst hr
 obtain rfl:=h.len
 refine⟨h.gr,⟨A,cc,ts⟩,p',c',rfl,rfl,⟨h.row,h.archs⟩,?_,hp,rfl,?_⟩
 ·rw[List.length_map];exact h.dr
 ·rw[List.length_map];exact hc
theorem Ck (F:Nat)(a:Nat)(s:BA)(p n:Nat)(c:Int)(w:World)(hs:s.size≤4294967280)(hF:s.size-p<F)(hG:pm a w)(h:DR w a s p n c)(hcn:c=0→n≤64):
  Calls Tryz.prog 188 #[.pointer (some ⟨a,0,none⟩)] w (gw (dZ F ((bl s).drop p)) a s p n c w):=by
 obtain⟨i0,hi0,hz0,hz1,hz2⟩:=info_parts FZ
 have HG:=ae hG
 obtain⟨f0,hf0⟩:∃ f0,F=f0+1:=⟨F-1,by omega⟩
 have E0:Hid (dZ F ((bl s).drop p)=fj (f0+1) [] ((bl s).drop p)):=by show _=_;rw[uN,hf0]
 have HF0:Hid (s.size-p≤f0):=by show _≤_;omega
 have HCN:=ae hcn
 generalize dZ F ((bl s).drop p)=RR at E0
 have S1:Hid (Ia w w a s p n c [] none 0 0):=⟨rfl,World.ownsRow_nil _ _ _ _,by simp,h,World.grownBy.refl _ _,h.sz⟩
 have hps:=h.le
 clear hG hf0 hF hcn h
 go_enter Tryz.func188,Tryz.ntmps188
 go_wp2_with fail
 go_loopw [2,3,4] (fun s2 s3 l wr=>∃ (k m cc f:Nat) (c':Int) (ts:List cA) (A:OA),s2=.slice none 0 0∧s3=.bool false∧l=.slice A m cc∧k≤s.size∧m≤k∧Hid (Ia w wr a s k (n+m) c' ts A m cc)∧Hid (p≤k)∧Hid (RR=fj (f+1) (ts.map cA.pl) ((bl s).drop k))∧Hid (s.size-k≤f)∧Hid (c'=0↔c=0∧(ts.map cA.pl).all du.right=true∧n+m≤64)) (fun _ _ _ wr=>s.size-xt a wr)
 case atStart=>exact⟨p,0,0,f0,c,[],none,rfl,rfl,rfl,hps,z0,S1,lr,E0,HF0,by have:=HCN.out;show _↔_;simpa using this⟩
 case round=>
  clear S1 E0 HF0 HCN
  obtain⟨k,m,cc,f,c',ts,A,rfl,rfl,rfl,hk,hmk,HS,HP,HE,HF,HC⟩:=hrel
  go_wp2_with fail
  refine(FY a s k (n+m) c' wr hs (HG.out.kept HS.out.gr) HS.out.dr).mono ?_;rintro e w2 ⟨hg,hpost⟩
  cases ht:fN ((bl s).drop k) with
  | none=>
   rw[ht] at hpost
   obtain⟨T,p',n',d',rfl,hd⟩:=hpost
   have S2:=ae (HS.out.step hg hd);clear hd hg
   have EN:Hid (RR=none):=by show _=_;rw[HE.out];exact xm ht
   clear ht
   unfold cA.val
   go_wp2_with fail
   go_ret2
   have:=S2.out.alloc (.cells #[.string T.nm,.int .i64 T.op,.string T.ver,.string T.qual,.slice T.aa T.archs.length T.ac] 220)
   exact gw.no EN.out this.gr this.dr
  | some x=>
   obtain⟨t,r⟩:=x
   rw[ht] at hpost
   obtain⟨T,p',d',rfl,hT,hTo,hd,hpp,hdr,hcc⟩:=hpost
   have S2:=ae (HS.out.step hg hd)
   have HTO:=ae (hTo.base (lo':=w.heap.size) HS.out.gr.size)
   have hps':=hd.le
   have C2:Hid (d'=0↔c=0∧((ts++[T]).map cA.pl).all du.right=true∧n+(m+1)≤64):=by
    have h1:=HC.out
    show _↔_
    rw[hcc,h1,List.map_append,List.all_append]
    simp only[List.map_cons,List.map_nil,List.all_cons,List.all_nil,Bool.and_true,Bool.and_eq_true,hT]
    constructor
    ·rintro⟨⟨a1,a2,a3⟩,a4,a5⟩;exact⟨a1,⟨a2,a4⟩,by omega⟩
    ·rintro⟨a1,⟨a2,a4⟩,a5⟩;exact⟨⟨a1,a2,by omega⟩,a4,by omega⟩
   have HD:=ae hdr
   have HT:=ae hT
   have HTM:=ae ht
   have hmm:m≤4294967280:=by omega
   have HKK:Hid (k<p'):=hpp
   clear ht hT hTo hd hg hdr hcc hpp
   unfold cA.val
   go_wp2_with (at_builtin;refine aD _ rfl _ _ _ rfl w.heap.size 220 i0 _ 5 80 Tryz.underlying218 hi0 hz0 hz1 hz2 rfl (by omega) (.slice A m cc) m _ rfl ((S2.out.row.alloc _).alloc _) (w2.heap.size+1+1) (some ⟨w2.heap.size+1,0,none⟩) 1 1 T.cells rfl (by have:=sT (w2.alloc (.cells T.cells.toArray 220)) 220 (.string T.nm) (.int .i64 T.op) (.string T.ver) (.string T.qual) (.slice T.aa T.archs.length T.ac);simpa [cA.cells] using this) (by simp[Value.oneCell',cA.cells]) (by simp only[maxLen];omega) (by omega) (by simp;have:=S2.out.gr.size;omega) ?_;intro v1 w3 o1 g1 a1)
   obtain⟨A3,c3,rfl⟩:=aP o1
   have S3:=ae (S2.out.grow (T:=T) HTO.out o1 g1)
   clear o1 g1 a1
   cases hb:ay 124 ((bl s).drop p') with
   | false=>
    have HB:=ae hb
    have EN:Hid (RR=some ((ts++[T]).map cA.pl,(bl s).drop p')):=by
     show _=_;rw[HE.out,zm HTM.out (by rw[←HD.out];exact hb),List.map_append,HD.out];simp[HT.out]
    have PF:Hid (p<p'):=by have h1:=HP.out;have h2:=HKK.out;show _<_;omega
    clear hb
    go_wp2_with fail
    refine(aC 124 a s p' _ d' w3 hs S3.out.dr HB).mono ?_;rintro e w4 ⟨rfl,hd,hg⟩
    have S4:=ae (S3.out.step hg hd);clear hd hg
    go_wp2_with fail
    go_ret2
    exact gw.yes EN.out S4.out PF.out C2.out
   | true=>
    have HB:=ae hb
    obtain⟨k2,hk2⟩:∃ k2,p'+1+aA aO ((bl s).drop (p'+1))=k2:=⟨_,rfl⟩
    have EN:Hid (RR=fj (f-1+1) ((ts++[T]).map cA.pl) ((bl s).drop k2)):=by
     have hf:=HF.out;have h2:=HKK.out
     show _=_
     rw[HE.out,xo HTM.out (by rw[←HD.out];exact hb),←HD.out,List.drop_drop,bK,hk2,List.map_append,show f-1+1=f by omega];simp[HT.out]
    have HB2:=ae (fun (W:World) (hD:DR W a s (p'+1) (n+(m+1)) d')=>aF a s (p'+1) (n+(m+1)) d' W hs hD)
    rw[hk2] at HB2
    have HK2:Hid (k<k2):=by have:=HKK.out;show _<_;omega
    have HF2:Hid (s.size-k2≤f-1):=by have:=HF.out;have:=HK2.out;show _≤_;omega
    have HP2:Hid (p≤k2):=by have:=HP.out;have:=HK2.out;show _≤_;omega
    have hmk2:m+1≤k2:=by have:=HK2.out;omega
    clear hb hk2
    go_wp2_with fail
    refine(aJ 124 a s p' _ d' w3 hs S3.out.dr HB).mono ?_;rintro e w4 ⟨rfl,hd,hg⟩
    have S4:=ae (S3.out.step hg hd);clear hd hg
    go_wp2_with fail
    refine(HB2.out w4 S4.out.dr).mono ?_;rintro e w5 ⟨rfl,hd,hg⟩
    have S5:=ae (S4.out.step hg hd);clear hd hg
    have hk2s:=S5.out.dr.le
    go_wp2_with fail
    go_roundw
    case rel=>exact⟨k2,m+1,c3,f-1,d',ts++[T],A3,rfl,rfl,rfl,hk2s,hmk2,S5,HP2,EN,HF2,C2⟩
    case measure=>exact DR.dec S5.out.dr HS.out.dr HK2.out
def tH (a:Nat)(w:World):Nat:=match w.cell? ⟨a,0,none⟩ with | some (.slice _ m _)=>m | _=>0
theorem PR.rest {w:World}{a hi n m:Nat}{l:LU}(h:PR w a hi l n m):tH a w=m:=by
 obtain⟨b,off,c,T,p,k,_,_⟩:=h.cells
 unfold tH;rw[k.c0]
theorem PR.dec {w w':World}{a hi n m n' m':Nat}{l l':LU}(h':PR w' a hi l' n' m')(h:PR w a hi l n m)(hk:m'<m):tH a w'<tH a w:=by rw[h'.rest,h.rest];exact hk
theorem oD (tmps:Array Value){W:World}{s:Nat}(h:CM W s)(h2:tmps[4]?=some (.pointer (some ⟨s,0,none⟩)))(h3:tmps[5]?=some (.pointer (some ⟨s+1,0,none⟩)))(v0 v1 v2 v3 v4 u0 u1 u2:Value)
  (hv:v0.oneCell'=true∧v1.oneCell'=true∧v2.oneCell'=true∧v3.oneCell'=true∧v4.oneCell'=true∧u0.oneCell'=true∧u1.oneCell'=true∧u2.oneCell'=true):
  (results Tryz.f160 tmps).run Tryz.prog (jz W s v0 v1 v2 v3 v4 u0 u1 u2)=.ok (.tuple #[.agg #[v0,v1,v2,v3,v4],.agg #[u0,u1,u2]]) (jz W s v0 v1 v2 v3 v4 u0 u1 u2):=by
 obtain⟨x0,x1,x2,x3,x4,y0,y1,y2,_,_,_,_,_,_,_,_⟩:=h
 simp(maxDischargeDepth:=10) [results,Tryz.results160,h2,h3,go_sem,x0,x1,x2,x3,x4,y0,y1,y2]
theorem Eg (tmps:Array Value){W:World}{s:Nat}(h:CM W s)(h2:tmps[4]?=some (.pointer (some ⟨s,0,none⟩)))(h3:tmps[5]?=some (.pointer (some ⟨s+1,0,none⟩)))(v0 v1 v2 v3 v4 u0 u1 u2:Value)
  (hv:v0.oneCell'=true∧v1.oneCell'=true∧v2.oneCell'=true∧v3.oneCell'=true∧v4.oneCell'=true∧u0.oneCell'=true∧u1.oneCell'=true∧u2.oneCell'=true):
  (results Tryz.f196 tmps).run Tryz.prog (jz W s v0 v1 v2 v3 v4 u0 u1 u2)=.ok (.tuple #[.agg #[v0,v1,v2,v3,v4],.agg #[u0,u1,u2]]) (jz W s v0 v1 v2 v3 v4 u0 u1 u2):=by
 obtain⟨x0,x1,x2,x3,x4,y0,y1,y2,_,_,_,_,_,_,_,_⟩:=h
 simp(maxDischargeDepth:=10) [results,Tryz.results196,h2,h3,go_sem,x0,x1,x2,x3,x4,y0,y1,y2]
theorem lX:lp.val=.agg #[.string ⟨#[]⟩,.string ⟨#[]⟩,.int .i64 0,.string ⟨#[]⟩,.slice none 0 0]:=rfl
theorem JD (tmps:Array Value){W:World}{s:Nat}(h:CM W s)(h2:tmps[4]?=some (.pointer (some ⟨s,0,none⟩)))(h3:tmps[5]?=some (.pointer (some ⟨s+1,0,none⟩)))(v0 v1 v2 v3 v4 u0 u1 u2:Value)
  (hv:v0.oneCell'=true∧v1.oneCell'=true∧v2.oneCell'=true∧v3.oneCell'=true∧v4.oneCell'=true∧u0.oneCell'=true∧u1.oneCell'=true∧u2.oneCell'=true):
  (results Tryz.f196 tmps).run Tryz.prog (jz W s v0 v1 v2 v3 v4 u0 u1 u2).drew=.ok (.tuple #[.agg #[v0,v1,v2,v3,v4],.agg #[u0,u1,u2]]) (jz W s v0 v1 v2 v3 v4 u0 u1 u2).drew:=by
 obtain⟨x0,x1,x2,x3,x4,y0,y1,y2,_,_,_,_,_,_,_,_⟩:=h
 simp(maxDischargeDepth:=10) [results,Tryz.results196,h2,h3,go_sem,x0,x1,x2,x3,x4,y0,y1,y2]
theorem CQ {w W:World}{a:Nat}(h:w.grownBy W (some a)):w.grownBy W.drew (some a):=li h ⟨rfl,rfl,rfl,lr,fun _ _=>rfl⟩
theorem oC.wide {w W W':World}{a hi n m:Nat}{l:LU}{row:Option Nat}(h:oC w W a hi l n m)(k:W.grownBy W' row)(hr:∀ j,row=some j→w.heap.size+2≤j):oC w W' a hi l n m:=by
 have h1:=h.lt
 refine⟨⟨h.two.b0.grownBy k (fun e=>by have:=hr _ e.symm;omega),h.two.b1.grownBy k (fun e=>by have:=hr _ e.symm;omega)⟩,h.pr.grown k (fun j e=>by have:=hr j e;omega),gu h.gr k (fun j e=>by have:=hr j e;omega),?_,h1⟩
 obtain⟨w0,g1,g2,g3⟩:=h.gl
 have h2:=h.pr.lt
 refine⟨w0,g1,?_,g3⟩
 exact⟨k.os.trans g2.os,k.tape.trans g2.tape,k.output.trans g2.output,Nat.le_trans g2.size k.size,fun j hj=>(k.block j (by have:=g2.size;omega) (fun e=>by have:=hr j e.symm;omega)).trans (g2.block j hj)⟩
theorem fy.of_group {OP:BA}{ks:List aj}{T:aj}{A:OA}{c mm:Nat}(hop:Ec mm (bl OP))(hl:ks.length=mm)(h0:mm≠0)(hk:∀ k∈ks++[T],fy k):fy (.mk OP ⟨#[]⟩ 0 ⟨#[]⟩ A c (ks++[T])):=by
 refine .node OP A c _ (hop.word h0) ?_ hk
 rw[List.length_append,List.length_singleton,hl,hop.close];simpa using h0
theorem Calls.int {f:Nat}{args:Array Value}{w:World}{post:Ending→World→Prop}{args':Array Value}(h:Calls Tryz.prog f args w post)(e:args=args'):Calls Tryz.prog f args' w post:=e ▸ h
theorem CS {op p:LU}{n:Nat}(h:aG op n p=true):p≠[]:=by
 unfold aG at h
 split at h
 ·exact(kq h).1
 ·rcases dO h with⟨h1,h2⟩ | ⟨_,_,h2⟩
  ·rcases h1 with h1 | h1<;>rw[h2,h1]<;>simp[eY,mG]
  ·rw[h2];simp[qd]
def No (f:Nat):Prop:=∀ (a hi n m deep:Nat)(l:LU)(w:World),2*l.length+1≤f→pm a w→PR w a hi l n m→n≤64→deep≤32 →
 Calls Tryz.prog 160 #[.pointer (some ⟨a,0,none⟩),.int .i64 deep] w (bZ (gx f deep n l) a hi m deep n w)
def Np (f:Nat):Prop:=∀ (a hi n m deep:Nat)(l:LU)(w:World),2*l.length+2≤f→pm a w→PR w a hi l n m→n≤64→deep<32 →
 Calls Tryz.prog 196 #[.pointer (some ⟨a,0,none⟩),.int .i64 ((deep:Int)+1)] w (bZ (jS f (deep+1) n [] [] l) a hi m deep n w)
theorem tI (a b:List aj):kE (a++b)=kE a++kE b:=by rw[it,it,it,List.map_append]
theorem ri {a:List aj}:kE a=[]↔a=[]:=by rw[it];simp
theorem tJ (a:List aj):(kE a).length=a.length:=by rw[it];simp
theorem Nq {ks:List aj}{d:Nat}(h:∀ k∈ks,k.ht+1≤d):zC ks≤d:=by
 by_cases h0:ks=[]
 ·subst h0;simp[zC]
 ·obtain⟨t,ht,he⟩:=xD h0;have:=h t ht;omega
theorem Nr (F:Nat)(IH:∀ f,f<F→No f):Np F:=by
 intro a hi n m deep l w hF hG h hn hd
 obtain⟨i0,hi0,hz0,hz1,hz2⟩:=info_parts pu
 obtain⟨f0,rfl⟩:∃ f0,F=f0+1:=⟨F-1,by omega⟩
 obtain⟨RR,hRR⟩:∃ RR,jS (f0+1) (deep+1) n [] [] l=RR:=⟨_,rfl⟩
 rw[hRR]
 have E0:Hid (RR=jS (f0+1) (deep+1) n (kE []) (bl ⟨#[]⟩) l):=hRR.symm
 have F0:Hid (2*l.length+2≤f0+1):=hF
 have HIH:=ae IH
 obtain⟨W1,hW1⟩:∃ W1,(w.alloc (.cells #[.string ⟨#[]⟩,.string ⟨#[]⟩,.int .i64 0,.string ⟨#[]⟩,.slice none 0 0] 179)).alloc (.cells #[.string ⟨#[]⟩,.int .i64 0,.int .i64 0] 172)=W1:=⟨_,rfl⟩
 have S1:Hid (oC w W1 a hi l n m):=by rw[←hW1];exact oC.start hG h _ _
 have hz:W1.heap.size=w.heap.size+2:=by rw[←hW1];simp
 have HZ:=ae hz
 clear hRR hF IH h hG hz
 go_enter Tryz.func196,Tryz.ntmps196
 go_upto_region 1 with(fail)
 clear hW1
 go_wp2_with fail
 go_loopw [] (fun wr=>∃ (lc:LU) (nc mc mm cc f:Nat) (OP:BA) (ks:List aj) (A:OA),nc≤64∧mm≤64∧Hid (ym W1 wr a hi lc nc mc OP ks A mm cc)∧Hid (oC w wr a hi lc nc mc)∧Hid (Ec mm (bl OP))∧Hid (RR=jS (f+1) (deep+1) nc (kE ks) (bl OP) lc)∧Hid (2*lc.length+2≤f+1)∧Hid (f≤f0)∧Hid (nc=n+cE ks)∧Hid (∀ k∈ks,k.ht+(deep+1)≤32)∧Hid (mc≤m)) (fun wr=>tH a wr)
 case atStart=>exact⟨l,n,m,0,0,f0,⟨#[]⟩,[],none,hn,by omega,ym.start S1.out.pr _,S1.out.below (bR.alloc lr _),Ec.start,E0,F0,lr,by simp[Hid,cE],by simp[Hid],lr⟩
 case round=>
  clear S1 E0 F0
  obtain⟨lc,nc,mc,mm,cc,f,OP,ks,A,hnc,hmm,HS,HR,HOP,HE,HF,HF0,HN,HH,HM⟩:=hrel
  have hDep:=Calls.int (HIH.out f (by have:=HF0.out;omega) a hi nc mc (deep+1) lc wr (by have:=HF.out;omega) HR.out.gl HR.out.pr hnc (by omega)) (args':=#[.pointer (some ⟨a,0,none⟩),.int .i64 ((deep:Int)+1)]) rfl
  go_wp2_with fail
  refine hDep.mono ?_;rintro e w2 ⟨hg,hpost⟩
  clear hDep
  cases hr:gx f (deep+1) nc lc with
  | none=>
   rw[hr] at hpost
   obtain⟨ff,x,c,rfl,hc⟩:=hpost
   have EN:Hid (RR=none):=HE.out.trans (Gz hr)
   have T2:=ae (HR.out.two.step hg HR.out.alt)
   have G2:=ae (ai HR.out.gr hg)
   have hc1:(c != 0)=true:=by simp[hc]
   have HC:=uD.mk hc
   have hsz:w.heap.size+1<w2.heap.size:=T2.out.b1.sz
   have HSZ:=ae hsz
   clear hr hc hg
   unfold ec
   rw[lX]
   go_upto_region 3 with(fail)
   obtain⟨W3,hW3⟩:∃ W3,(w2.alloc (.cells #[.string ⟨#[]⟩,.string ⟨#[]⟩,.int .i64 0,.string ⟨#[]⟩,.slice none 0 0] 179)).alloc (.cells #[.string ff,.int .i64 x,.int .i64 c] 172)=W3:=⟨_,rfl⟩
   have B3:Hid (Below w2.heap.size w2 W3):=by rw[←hW3];exact(bR.alloc lr _).alloc (by simp) _
   have K3:Hid (ax W3 (w2.heap.size+1) [.string ff,.int .i64 x,.int .i64 c]):=by
    have:=ax.new (w2.alloc (.cells #[.string ⟨#[]⟩,.string ⟨#[]⟩,.int .i64 0,.string ⟨#[]⟩,.slice none 0 0] 179)) [.string ff,.int .i64 x,.int .i64 c] 172
    rw[←hW3];show ax _ _ _;simpa using this
   have T3:=ae (T2.out.below B3.out)
   have G3:=ae (li G2.out B3.out)
   rw[hW3]
   clear hW3 hsz T2 G2
   have d0:=K3.out.cell 0 _ rfl
   have d1:=K3.out.cell 1 _ rfl
   have d2:=K3.out.cell 2 _ rfl
   have tc:=T3.out.c
   obtain⟨x0,x1,x2,x3,x4,y0,y1,y2,g0,g1,g2,g3,g4,k0,k1,k2⟩:=tc
   have hne1:¬ w.heap.size=w2.heap.size+1:=by have:=HSZ.out;omega
   have hne2:¬ w2.heap.size+1=w.heap.size:=by have:=HSZ.out;omega
   have hne3:¬ w.heap.size=w2.heap.size:=by have:=HSZ.out;omega
   have hne4:¬ w2.heap.size=w.heap.size:=by have:=HSZ.out;omega
   go_wp2_with fail
   go_region
   go_wp2_with fail
   refine bodyPost_ret (JD _ T3.out.c rfl rfl _ _ _ _ _ _ _ _ ⟨rfl,rfl,rfl,rfl,rfl,rfl,rfl,rfl⟩) rfl ?_
   exact bZ.no EN.out (CQ (cf G3.out lr _ _ _ _ _ _ _ _)) HC.out
  | some r=>
   obtain⟨t,l1,n1⟩:=r
   rw[hr] at hpost
   obtain⟨T,m1,rfl,hT,hgd,hown,hht,hn1,hn64,hpr,hm1⟩:=hpost
   have S2:=ae (HS.out.step hg hpr)
   have R2:=ae (HR.out.step hg hpr)
   have TB:=ae ((hown.old (bad':=(Value.slice A mm cc).ownBlock) (fun g e=>.inl (HS.out.row.lt g e).2)).base (lo':=W1.heap.size+1) (by have:=HS.out.box.sz;omega))
   have HT:=ae hT
   have HTM:=ae hr
   have HGD:=ae hgd
   have HHT:=ae hht
   have HN1:Hid (n1=n+cE (ks++[T])):=by show _=_;rw[dm,hn1,HN.out];simp[cE];omega
   have HM1:Hid (m1<mc):=hm1
   have HL1:Hid (l1.length<lc.length):=(Ef f).1 _ _ _ _ _ _ hr
   have HN64:=ae hn64
   clear hr hg hT hgd hown hht hn1 hm1 hpr hn64 HS
   unfold ec aj.val
   go_upto_region 3 with(fail)
   obtain⟨W3,hW3⟩:∃ W3,(w2.alloc (.cells T.cells.toArray 179)).alloc (.cells #[.string ⟨#[]⟩,.int .i64 0,.int .i64 0] 172)=W3:=⟨_,rfl⟩
   have B3:Hid (Below w2.heap.size w2 W3):=by rw[←hW3];exact(bR.alloc lr _).alloc (by simp) _
   have KT3:Hid (ax W3 w2.heap.size T.cells):=by rw[←hW3];exact(ax.new w2 T.cells _).alloc _
   have KF3:Hid (ax W3 (w2.heap.size+1) [.string ⟨#[]⟩,.int .i64 0,.int .i64 0]):=by
    have:=ax.new (w2.alloc (.cells T.cells.toArray 179)) [.string ⟨#[]⟩,.int .i64 0,.int .i64 0] 172
    rw[←hW3];show ax _ _ _;simpa using this
   have S3:=ae (S2.out.below B3.out)
   have R3:=ae (R2.out.below B3.out)
   have TB3:=ae ((TB.out.low B3.out).low ((Below.refl W3.heap.size W3).alloc lr (.cells T.cells.toArray 179)))
   have SA:=ae (S3.out.below ((Below.refl W3.heap.size W3).alloc lr (.cells T.cells.toArray 179)))
   have RA:=ae (R3.out.below ((Below.refl W3.heap.size W3).alloc lr (.cells T.cells.toArray 179)))
   have hW4:(w2.alloc (.cells #[.string T.op,.string T.nm,.int .i64 T.aop,.string T.ver,.slice T.ka T.kids.length T.kc] 179)).alloc (.cells #[.string ⟨#[]⟩,.int .i64 0,.int .i64 0] 172)=W3:=hW3
   rw[hW4]
   clear hW3 hW4 S2 R2 TB
   have k0:=KT3.out.cell 0 _ rfl
   have k1:=KT3.out.cell 1 _ rfl
   have k2:=KT3.out.cell 2 _ rfl
   have k3:=KT3.out.cell 3 _ rfl
   have k4:=KT3.out.cell 4 _ rfl
   have q2:=KF3.out.cell 2 _ rfl
   have x4:=S3.out.box.cell 4 _ rfl
   have hmm2:mm≤4294967280:=by omega
   go_upto_region 6 with(at_builtin;refine aD _ rfl _ _ _ rfl (W1.heap.size+1) 179 i0 _ 5 80 Tryz.underlying177 hi0 hz0 hz1 hz2 rfl (by omega) (.slice A mm cc) mm _ rfl (SA.out.row) (W3.heap.size+1) (some ⟨W3.heap.size,0,none⟩) 1 1 T.cells rfl (by have:=sT W3 179 (.string T.op) (.string T.nm) (.int .i64 T.aop) (.string T.ver) (.slice T.ka T.kids.length T.kc);simpa [aj.cells] using this) (by simp[Value.oneCell',aj.cells]) (by simp only[maxLen];omega) (by omega) (by simp;have:=S3.out.box.sz;omega) ?_;intro v1 w4 o1 g1 a1;obtain⟨A3,c3,rfl⟩:=aP o1;have bx:=ae (SA.out.box.grownBy g1 (fun e=>by have:=(SA.out.row.lt _ e.symm).1;omega));have y4:=bx.out.cell 4 _ rfl;have z4:=bx.out.free 4 (by simp);clear bx)
   clear k0 k1 k2 k3 k4 q2 x4 y4 z4
   have hw1:w.heap.size+2≤W1.heap.size:=by have:=HZ.out;omega
   have S5:=ae (SA.out.grow TB3.out HGD.out o1 g1 a1)
   have R5:=ae ((RA.out.wide g1 (fun j e=>by have:=(SA.out.row.lt j e).1;omega)).far (j:=4) hw1 (.slice A3 (mm+1) c3))
   have HW1:=ae hw1
   obtain⟨W5,hW5⟩:∃ W5,w4.setCell ⟨W1.heap.size,4,none⟩ (.slice A3 (mm+1) c3)=W5:=⟨_,rfl⟩
   rw[hW5] at S5 R5 ⊢
   clear hW5 hw1 o1 g1 a1 SA RA TB3 S3 R3 KT3 KF3 B3
   obtain⟨b5,off5,c5,P,q,k5,hP,-⟩:=R5.out.pr.cells
   have HP:=ae hP
   obtain⟨r0,r1,r2,r3,r4,r5,r6,r7,r8,r9,tz5⟩:=k5
   clear hP
   go_upto_region 7 with(fail)
   clear r0 r1 r2 r3 r4 r5 r6 r7 r8 r9
   obtain⟨W6,hW6⟩:∃ W6,W5.alloc (.cells #[.string P,.int .i64 q] 230)=W6:=⟨_,rfl⟩
   have B6:Hid (Below W5.heap.size W5 W6):=by rw[←hW6];exact bR.alloc lr _
   have KP6:Hid (ax W6 W5.heap.size [.string P,.int .i64 q]):=by rw[←hW6];exact ax.new W5 [.string P,.int .i64 q] _
   have S6:=ae (S5.out.below B6.out)
   have R6:=ae (R5.out.below B6.out)
   have HS5:Hid (w.heap.size+2≤W5.heap.size):=by have:=S5.out.box.sz;have:=HW1.out;show _≤_;omega
   rw[hW6]
   clear hW6 S5 R5 B6
   have p0:=KP6.out.cell 0 _ rfl
   have p1:=KP6.out.cell 1 _ rfl
   have u0:=S6.out.box.cell 0 _ rfl
   have u4:=S6.out.box.cell 4 _ rfl
   have hC:=qf OP (mm+1) W6
   rw[HOP.out.close] at hC
   have hC:=Calls.int hC (args':=#[.string OP,.int .i64 ((mm:Int)+1)]) rfl
   have hFo:=xI OP (mm+1) P W6 R6.out.gl.gl
   have hFo:=Calls.int hFo (args':=#[.string OP,.int .i64 ((mm:Int)+1),.string P]) rfl
   obtain⟨bb,hbb⟩:∃ bb:Bool,decide (bl P=[41]∧mm≠0)=bb:=⟨_,rfl⟩
   obtain⟨fb,hfb⟩:∃ fb:Bool,aG (bl OP) (mm+1) (bl P)=fb:=⟨_,rfl⟩
   obtain⟨cb,hcb⟩:∃ cb:Bool,decide (mm≠0)=cb:=⟨_,rfl⟩
   rw[hfb] at hFo
   rw[hcb] at hC
   have HFB:=ae hfb
   have HBB:=ae hbb
   have HCB:=ae hcb
   clear hbb hfb hcb
   go_cut [43] (fun v wx=>v=.bool bb∧W6=wx)
   case first=>
    clear hFo
    by_cases hp:bl P=[41]
    ·have E1:P.toList=[41]:=by rw[ah];exact hp
     have E2:Hid (bb=cb):=by show _=_;rw[←HBB.out,←HCB.out];simp[hp]
     clear hp
     go_wp2_with fail
     refine hC.mono ?_;rintro e w' ⟨rfl,rfl⟩
     go_wp2_with fail
     go_meet
     exact⟨by rw[E2.out],rfl⟩
    ·have E1:(P.toList==([41]:LU))=false:=by rw[ah,bF];exact hp
     have E2:Hid (bb=false):=by show _=_;rw[←HBB.out];exact dF (fun h=>hp h.1)
     clear hp
     go_wp2_with fail
     go_meet
     exact⟨by rw[E2.out],rfl⟩
   case rest=>
   obtain⟨rfl,rfl⟩:=hcut
   clear hC
   cases bb with
   | true=>
    obtain⟨hp41,hm0⟩:=dO HBB.out
    have HM0:=uD.mk hm0
    have HL41:Hid (aR l1=[41]):=by show _=_;rw[←HP.out];exact hp41
    have EY:Hid (RR=some (.node (bl OP) (kE (ks++[T])),aU l1,n1)):=by
     show _=_
     rw[HE.out,tI,show kE [T]=[t] by simp[kE,HT.out]]
     exact Jy HTM.out HL41.out (fun e=>hm0 (by have h1:=S6.out.len;rw[List.length_append,List.length_singleton,ri.1 e] at h1;simp at h1;omega))
    clear hp41 hm0 hFo
    go_wp2_with fail
    refine(gy a hi n1 m1 l1 W6 R6.out.pr (by rw[HL41.out];simp)).mono ?_;rintro e w7 ⟨rfl,hp,hg,hm2⟩
    have S7:=ae (S6.out.step hg hp)
    have R7:=ae (R6.out.step hg hp)
    clear hp hg hm2 p0 p1 u0 u4
    have u0:=S7.out.box.cell 0 _ rfl
    have u1:=S7.out.box.cell 1 _ rfl
    have u2:=S7.out.box.cell 2 _ rfl
    have u3:=S7.out.box.cell 3 _ rfl
    have u4:=S7.out.box.cell 4 _ rfl
    have tc:=R7.out.two.c
    obtain⟨x0,x1,x2,x3,x4,y0,y1,y2,g0,g1,g2,g3,g4,k0,k1,k2⟩:=tc
    have hne1:¬ w.heap.size=W1.heap.size:=by have:=HW1.out;omega
    have hne2:¬ W1.heap.size=w.heap.size:=by have:=HW1.out;omega
    have hne3:¬ w.heap.size+1=W1.heap.size:=by have:=HW1.out;omega
    have hne4:¬ W1.heap.size=w.heap.size+1:=by have:=HW1.out;omega
    go_wp2_with fail
    refine bodyPost_ret (Eg _ R7.out.two.c rfl rfl _ _ _ _ _ _ _ _ ⟨rfl,rfl,rfl,rfl,rfl,rfl,rfl,rfl⟩) rfl ?_
    have ln:=S7.out.len
    have hrow:=S7.out.row
    rw[←ln] at hrow
    have hown:bB w7 (W1.heap.size+1) none (.mk OP ⟨#[]⟩ 0 ⟨#[]⟩ A3 c3 (ks++[T])):=.mk _ hrow (fun g _=>by simp) (fun k hk=>(S7.out.kids k hk).any)
    rw[←ln]
    refine bZ.yes (T:=.mk OP ⟨#[]⟩ 0 ⟨#[]⟩ A3 c3 (ks++[T])) ?_ (cf R7.out.gr lr _ _ _ _ _ _ _ _) (fy.of_group HOP.out (by rw[List.length_append,List.length_singleton] at ln;omega) HM0.out S7.out.good) ((tF hown (by have:=HW1.out;omega) _ _ _ _ _ _ _ _).base (by have:=HW1.out;omega)) ?_ ?_ HN64.out (rh R7.out.pr R7.out.lt _ _ _ _ _ _ _ _) (by have:=HM1.out;have:=HM.out;omega)
    ·rw[EY.out,xF _ _ _ _ _ _ _ (kq (HOP.out.word HM0.out)).1]
    ·rw[vX]
     have:zC (ks++[T])≤32-deep:=Nq (fun k hk=>by
      rcases List.mem_append.1 hk with hk | hk
      ·have:=HH.out k hk;omega
      ·obtain rfl:=List.mem_singleton.1 hk;have:=HHT.out;omega)
     show zC (ks++[T])+deep≤32
     omega
    ·rw[HN1.out,eZ (by simp[aj.kids])];rfl
   | false=>
   have HB:Hid (¬ (aR l1=[41]∧kE ks≠[])):=by
    rintro⟨h1,h2⟩
    refine of_decide_eq_false HBB.out ⟨by rw[HP.out];exact h1,fun e=>h2 ?_⟩
    have:=S6.out.len
    rw[List.length_append,List.length_singleton] at this
    rw[ri];exact List.length_eq_zero_iff.1 (by omega)
   go_wp2_with fail
   refine hFo.mono ?_;rintro e w' ⟨rfl,rfl⟩
   clear hFo
   cases fb with
   | false=>
    have EN:Hid (RR=none):=by
     show _=_;rw[HE.out]
     refine Jz HTM.out HB.out ?_
     have:=S6.out.len
     rw[List.length_append,List.length_singleton] at this
     rw[tJ,←HP.out,show ks.length+1=mm+1 by omega];exact HFB.out
    go_wp2_with fail
    refine(dM P q 3 _).mono ?_;rintro e w7 ⟨rfl,hb⟩
    have R7:=ae (R6.out.below hb)
    have tc:=R7.out.two.c
    obtain⟨x0,x1,x2,x3,x4,y0,y1,y2,g0,g1,g2,g3,g4,k0,k1,k2⟩:=tc
    clear hb
    unfold ec
    go_wp2_with fail
    refine bodyPost_ret (Eg _ R7.out.two.c rfl rfl _ _ _ _ _ _ _ _ ⟨rfl,rfl,rfl,rfl,rfl,rfl,rfl,rfl⟩) rfl ?_
    exact bZ.no EN.out (cf R7.out.gr lr _ _ _ _ _ _ _ _) (by decide)
   | true=>
    have HL1N:Hid (aR l1≠[]):=by have:=CS HFB.out;rwa [HP.out] at this
    have LN:Hid (ks.length=mm):=by have:=S6.out.len;rw[List.length_append,List.length_singleton] at this;show _=_;omega
    have F1:Hid (2*(aU l1).length+2≤f-1+1∧f=f-1+1):=by have h1:=HF.out;have h2:=HL1.out;have h3:=iZ HL1N.out;constructor<;>omega
    have EN:Hid (RR=jS (f-1+1) (deep+1) n1 (kE (ks++[T])) (if mm=0 then bl P else bl OP) (aU l1)):=by
     show _=_
     rw[HE.out,GA HTM.out HB.out (by rw[tJ,LN.out,←HP.out];exact HFB.out),←F1.out.2,tI,show kE [T]=[t] by simp[kE,HT.out],HP.out]
     congr 1
     by_cases h0:mm=0
     ·rw[if_pos h0,if_pos (by rw[ri];exact List.length_eq_zero_iff.1 (by rw[LN.out,h0]))]
     ·rw[if_neg h0,if_neg (by rw[ri];intro e;have:=LN.out;rw[e] at this;simp at this;omega)]
    have HOP2:=ae (HOP.out.next HFB.out)
    have HH2:Hid (∀ k∈ks++[T],k.ht+(deep+1)≤32):=by
     intro k hk
     rcases List.mem_append.1 hk with hk | hk
     ·exact HH.out k hk
     ·obtain rfl:=List.mem_singleton.1 hk;exact HHT.out
    have hmm3:mm+1≤64:=by have h1:=fR (ks++[T]);have h2:=HN1.out;have h3:=HN64.out;rw[List.length_append,List.length_singleton,LN.out] at h1;omega
    by_cases h0:mm=0
    ·have e0:bl OP=[]:=HOP.out.nil.2 h0
     have E1:OP.toList=[]:=by rw[ah];exact e0
     have E2:OP.toList.isEmpty=true:=by rw[E1];rfl
     rw[if_pos h0] at EN HOP2
     have z0:=S6.out.box.free 0 (by simp)
     have S7:=ae (S6.out.put P)
     have R7:=ae (R6.out.far (j:=0) HW1.out (.string P))
     clear e0 h0
     go_wp2_with fail
     refine(gy a hi n1 m1 l1 _ R7.out.pr HL1N.out).mono ?_;rintro e w7 ⟨rfl,hp,hg,hm2⟩
     have S8:=ae (S7.out.step hg hp)
     have R8:=ae (R7.out.step hg hp)
     have MD:Hid (m1-1<mc):=by have:=HM1.out;show _<_;omega
     clear hp hg hm2
     go_wp2_with fail
     go_roundw
     case rel=>exact⟨aU l1,n1,m1-1,mm+1,c3,f-1,P,ks++[T],A3,HN64.out,hmm3,S8,R8,HOP2,EN,F1.out.1,by have:=HF0.out;show _≤_;omega,HN1,HH2,by have:=MD.out;have:=HM.out;show _≤_;omega⟩
     case measure=>exact R8.out.pr.dec HR.out.pr MD.out
    ·have e0:bl OP≠[]:=fun e=>h0 (HOP.out.nil.1 e)
     have E1:(OP.toList==([]:LU))=false:=by rw[ah,bF];exact e0
     have E2:OP.toList.isEmpty=false:=by rw[ah,List.isEmpty_eq_false_iff];exact e0
     have E3:¬ OP.toList=[]:=by rw[ah];exact e0
     rw[if_neg h0] at EN HOP2
     clear e0 h0
     go_wp2_with fail
     refine(gy a hi n1 m1 l1 _ R6.out.pr HL1N.out).mono ?_;rintro e w7 ⟨rfl,hp,hg,hm2⟩
     have S8:=ae (S6.out.step hg hp)
     have R8:=ae (R6.out.step hg hp)
     have MD:Hid (m1-1<mc):=by have:=HM1.out;show _<_;omega
     clear hp hg hm2
     go_wp2_with fail
     go_roundw
     case rel=>exact⟨aU l1,n1,m1-1,mm+1,c3,f-1,OP,ks++[T],A3,HN64.out,hmm3,S8,R8,HOP2,EN,F1.out.1,by have:=HF0.out;show _≤_;omega,HN1,HH2,by have:=MD.out;have:=HM.out;show _≤_;omega⟩
     case measure=>exact R8.out.pr.dec HR.out.pr MD.out
theorem zS {f deep n:Nat}{l:LU}(h:aR l=[]∨aR l=[41]):gx (f+1) deep n l=none:=by unfold gx;rw[if_pos h]
theorem GF {f n:Nat}{l:LU}(h:aR l=[40]):gx (f+1) 32 n l=none:=by unfold gx;rw[if_neg (by rw[h];simp),if_pos h];rfl
theorem JE {f deep n:Nat}{l:LU}(h:aR l=[40])(hd:deep≠32):gx (f+1) deep n l=jS f (deep+1) n [] [] (aU l):=by rw[gx,if_neg (by rw[h];simp),if_pos h,if_neg hd]
theorem GG {f deep n:Nat}{l:LU}(h0:¬ (aR l=[]∨aR l=[41]))(h:aR l≠[40]):gx (f+1) deep n l=im n l:=by rw[gx,if_neg h0,if_neg h]
theorem Eh {r:Option (oN×LU×Nat)}{a hi m m0 deep n:Nat}{l:LU}{w W W':World}{e:Ending}(R:oC w W a hi l n m)(h:bZ r a hi m deep n W e W')(hm:m≤m0)(hW:w.heap.size+2≤W.heap.size):
  ∃ (T:aj) (f:BA) (x c:Int),e=.returned (.tuple #[T.val,ec f x c])∧wj W' w.heap.size ∧
   bZ r a hi m0 deep n w (.returned (.tuple #[T.val,ec f x c])) (jz W' w.heap.size (.string T.op) (.string T.nm) (.int .i64 T.aop) (.string T.ver) (.slice T.ka T.kids.length T.kc) (.string f) (.int .i64 x) (.int .i64 c)):=by
 obtain⟨h1,h2⟩:=h
 have tw:=R.two.step h1 R.alt
 have gr:=ai R.gr h1
 cases r with
 | none=>
  obtain⟨f,x,c,h3,h4⟩:=h2
  exact⟨lp,f,x,c,h3,tw,bZ.no rfl (cf gr lr _ _ _ _ _ _ _ _) h4⟩
 | some y=>
  obtain⟨t,l',n'⟩:=y
  obtain⟨T,m',a1,a2,a3,a4,a5,a6,a7,a8,a9⟩:=h2
  exact⟨T,⟨#[]⟩,0,0,a1,tw,bZ.yes (by rw[a2]) (cf gr lr _ _ _ _ _ _ _ _) a3 ((tF a4 (by omega) _ _ _ _ _ _ _ _).base (by omega)) a5 a6 a7 (rh a8 R.lt _ _ _ _ _ _ _ _) (by omega)⟩
theorem Ns (F:Nat)(IH:∀ f,f<F→Np f):No F:=by
 intro a hi n m deep l w hF hG h hn hd
 obtain⟨f0,rfl⟩:∃ f0,F=f0+1:=⟨F-1,by omega⟩
 have HF:=ae hF
 have HIH:=ae IH
 obtain⟨W0,hW0⟩:∃ W0,(w.alloc (.cells #[.string ⟨#[]⟩,.string ⟨#[]⟩,.int .i64 0,.string ⟨#[]⟩,.slice none 0 0] 179)).alloc (.cells #[.string ⟨#[]⟩,.int .i64 0,.int .i64 0] 172)=W0:=⟨_,rfl⟩
 have S0:Hid (oC w W0 a hi l n m):=by rw[←hW0];exact oC.start hG h _ _
 have z0:W0.heap.size=w.heap.size+2:=by rw[←hW0];simp
 obtain⟨b,off,c,T,p,k,hT,h2⟩:=S0.out.pr.cells
 have HT:=ae hT
 obtain⟨c0,c1,f0',f1,t0,t1,ne,m1,mc,cz,tz⟩:=k
 clear h h2 hT
 obtain⟨W1,hW1⟩:∃ W1,W0.alloc (.cells #[.string T,.int .i64 p] 230)=W1:=⟨_,rfl⟩
 have B1:Hid (Below W0.heap.size W0 W1):=by rw[←hW1];exact bR.alloc lr _
 have S1:Hid (oC w W1 a hi l n m):=S0.out.below B1.out
 have K1:Hid (ax W1 W0.heap.size [.string T,.int .i64 p]):=by rw[←hW1];exact ax.new W0 [.string T,.int .i64 p] _
 have HZ0:=ae z0
 have HZ1:Hid (w.heap.size+2≤W1.heap.size):=by have:=B1.out.size;show _≤_;omega
 clear S0 hG z0 hF IH B1
 go_enter Tryz.func160,Tryz.ntmps160
 go_upto_region 2 with(fail)
 clear hW0 hW1 c0 c1 f0' f1 t0 t1 ne m1 mc cz
 have t0:=K1.out.cell 0 _ rfl
 have t1:=K1.out.cell 1 _ rfl
 by_cases h1:bl T=[]
 ·have E1:T.toList=[]:=by rw[ah];exact h1
  have E2:T.toList.isEmpty=true:=by rw[E1];rfl
  have EN:Hid (gx (f0+1) deep n l=none):=zS (.inl (by rw[←HT.out];exact h1))
  clear h1
  go_wp2_with fail
  refine(dM T p 3 _).mono ?_;rintro e w2 ⟨rfl,hb⟩
  have S2:=ae (S1.out.below hb)
  have tc:=S2.out.two.c
  obtain⟨x0,x1,x2,x3,x4,y0,y1,y2,g0,g1,g2,g3,g4,k0,k1,k2⟩:=tc
  clear hb
  unfold ec
  go_wp2_with fail
  refine bodyPost_ret (oD _ S2.out.two.c rfl rfl _ _ _ _ _ _ _ _ ⟨rfl,rfl,rfl,rfl,rfl,rfl,rfl,rfl⟩) rfl ?_
  exact bZ.no EN.out (cf S2.out.gr lr _ _ _ _ _ _ _ _) (by decide)
 have F1:(T.toList==([]:LU))=false:=by rw[ah,bF];exact h1
 have F2:T.toList.isEmpty=false:=by rw[ah,List.isEmpty_eq_false_iff];exact h1
 have F3:¬ T.toList=[]:=by rw[ah];exact h1
 by_cases h2:bl T=[41]
 ·have E1:T.toList=[41]:=by rw[ah];exact h2
  have EN:Hid (gx (f0+1) deep n l=none):=zS (.inr (by rw[←HT.out];exact h2))
  clear h1 h2 F1 F2 F3
  go_wp2_with fail
  refine(dM T p 3 _).mono ?_;rintro e w2 ⟨rfl,hb⟩
  have S2:=ae (S1.out.below hb)
  have tc:=S2.out.two.c
  obtain⟨x0,x1,x2,x3,x4,y0,y1,y2,g0,g1,g2,g3,g4,k0,k1,k2⟩:=tc
  clear hb
  unfold ec
  go_wp2_with fail
  refine bodyPost_ret (oD _ S2.out.two.c rfl rfl _ _ _ _ _ _ _ _ ⟨rfl,rfl,rfl,rfl,rfl,rfl,rfl,rfl⟩) rfl ?_
  exact bZ.no EN.out (cf S2.out.gr lr _ _ _ _ _ _ _ _) (by decide)
 by_cases h3:bl T=[40]
 ·have E1:T.toList=[40]:=by rw[ah];exact h3
  have HL:Hid (aR l=[40]):=by show _=_;rw[←HT.out];exact h3
  clear h1 h2 h3 F1 F2 F3
  by_cases h32:deep=32
  ·have EN:Hid (gx (f0+1) deep n l=none):=by show _=_;rw[h32];exact GF HL.out
   have q32:((deep:Int)==32)=true:=by simp[h32]
   clear h32
   go_wp2_with fail
   refine(dM T p 4 _).mono ?_;rintro e w2 ⟨rfl,hb⟩
   have S2:=ae (S1.out.below hb)
   have tc:=S2.out.two.c
   obtain⟨x0,x1,x2,x3,x4,y0,y1,y2,g0,g1,g2,g3,g4,k0,k1,k2⟩:=tc
   clear hb
   unfold ec
   go_wp2_with fail
   refine bodyPost_ret (oD _ S2.out.two.c rfl rfl _ _ _ _ _ _ _ _ ⟨rfl,rfl,rfl,rfl,rfl,rfl,rfl,rfl⟩) rfl ?_
   exact bZ.no EN.out (cf S2.out.gr lr _ _ _ _ _ _ _ _) (by decide)
  ·have EG:=ae (JE (f:=f0) (n:=n) HL.out h32)
   have q32:((deep:Int)==32)=false:=by simp;omega
   have HD:Hid (deep<32):=by show _<_;omega
   clear h32
   go_wp2_with fail
   refine(gy a hi n m l W1 S1.out.pr (by rw[HL.out];simp)).mono ?_;rintro e w2 ⟨rfl,hp,hg,hm2⟩
   have S2:=ae (S1.out.step hg hp)
   have HZ2:Hid (w.heap.size+2≤w2.heap.size):=by have:=hg.size;have:=HZ1.out;show _≤_;omega
   have hG:=HIH.out f0 (by omega) a hi n (m-1) deep (aU l) w2 (by have:=HF.out;have:=iZ (l:=l) (by rw[HL.out];simp);omega) S2.out.gl S2.out.pr hn HD.out
   clear hp hg hm2 t0 t1
   go_wp2_with fail
   refine hG.mono ?_;rintro e w3 hpost
   obtain⟨T',f,x,c',rfl,tw,hfin⟩:=Eh S2.out hpost (m0:=m) (by omega) HZ2.out
   have HFIN:=ae hfin
   have HTW:=ae tw
   have tc:=tw.c
   obtain⟨x0,x1,x2,x3,x4,y0,y1,y2,g0,g1,g2,g3,g4,k0,k1,k2⟩:=tc
   clear hpost hfin hG tw
   unfold ec aj.val
   go_wp2_with fail
   refine bodyPost_ret (oD _ HTW.out.c rfl rfl _ _ _ _ _ _ _ _ ⟨rfl,rfl,rfl,rfl,rfl,rfl,rfl,rfl⟩) rfl ?_
   rw[EG.out];exact HFIN.out
 ·have F4:(T.toList==([41]:LU))=false:=by rw[ah,bF];exact h2
  have F5:(T.toList==([40]:LU))=false:=by rw[ah,bF];exact h3
  have EA:Hid (gx (f0+1) deep n l=im n l):=by
   show _=_
   rw[HT.out] at h1 h2 h3
   exact GG (by rintro(h | h)<;>contradiction) h3
  clear h1 h2 h3
  have hA:=GD a hi n m deep l W1 S1.out.gl S1.out.pr hn hd
  go_wp2_with fail
  refine hA.mono ?_;rintro e w3 hpost
  obtain⟨T',f,x,c',rfl,tw,hfin⟩:=Eh S1.out hpost lr HZ1.out
  have HFIN:=ae hfin
  have HTW:=ae tw
  have tc:=tw.c
  obtain⟨x0,x1,x2,x3,x4,y0,y1,y2,g0,g1,g2,g3,g4,k0,k1,k2⟩:=tc
  clear hpost hfin hA tw t0 t1
  unfold ec aj.val
  go_wp2_with fail
  refine bodyPost_ret (oD _ HTW.out.c rfl rfl _ _ _ _ _ _ _ _ ⟨rfl,rfl,rfl,rfl,rfl,rfl,rfl,rfl⟩) rfl ?_
  rw[EA.out];exact HFIN.out
theorem zT (F:Nat):No F∧Np F:=by
 induction F using Nat.strongRecOn with
 | _ F ih=>exact⟨Ns F fun f hf=>(ih f hf).2,Nr F fun f hf=>(ih f hf).1⟩
theorem wj.off {W W':World}{s a:Nat}(h:wj W s)(hg:W.grownBy W' (some a))(hs:s+1<a):wj W' s:=
 ⟨h.b0.grownBy hg (by simp;omega),h.b1.grownBy hg (by simp;omega)⟩
theorem nh {w W:World}{s:Nat}(h:Below w.heap.size w W)(hs:w.heap.size≤s)(v0 v1 v2 v3 v4 u0 u1 u2:Value):Below w.heap.size w (jz W s v0 v1 v2 v3 v4 u0 u1 u2):=by
 unfold jz
 repeat' refine ak ?_ (by omega) _
 exact h
theorem fq {B:Nat}{w W:World}(h:Below B w W):Below B w W.drew:=⟨h.os,h.tape,h.output,h.size,h.block⟩
def eJ (s:BA)(w:World)(e:Ending)(w':World):Prop:=
 ∃ (T:aj) (f:BA) (x c:Int),e=.returned (.tuple #[T.val,ec f x c])∧Below w.heap.size w w'∧match fp (bl s) with
  | none=>c≠0∧T=lp
  | some t=>c=0∧T.pl=t∧fy T∧bB w' w.heap.size none T∧T.ht≤32∧T.cnt≤64
theorem eJ.no {s:BA}{w w':World}{f:BA}{x c:Int}(hr:fp (bl s)=none)(hb:Below w.heap.size w w')(hc:c≠0):eJ s w (.returned (.tuple #[lp.val,ec f x c])) w':=⟨lp,f,x,c,rfl,hb,by rw[hr];exact⟨hc,rfl⟩⟩
theorem eJ.yes {s:BA}{w w':World}{T:aj}(hr:fp (bl s)=some T.pl)(hb:Below w.heap.size w w')(h1:fy T)(h2:bB w' w.heap.size none T)(h3:T.ht≤32)(h4:T.cnt≤64):eJ s w (.returned (.tuple #[T.val,ec ⟨#[]⟩ 0 0])) w':=⟨T,⟨#[]⟩,0,0,rfl,hb,by rw[hr];exact⟨rfl,rfl,h1,h2,h3,h4⟩⟩
theorem zU {l:LU}(h:gx (2*l.length+2) 0 0 l=none):fp l=none:=by unfold fp;rw[h]
theorem zV {l r:LU}{d:oN}{n:Nat}(h:gx (2*l.length+2) 0 0 l=some (d,r,n))(hr:aR r≠[]):fp l=none:=by unfold fp;rw[h];simp only;rw[if_neg hr]
theorem zX {l r:LU}{d:oN}{n:Nat}(h:gx (2*l.length+2) 0 0 l=some (d,r,n))(hr:aR r=[]):fp l=some d:=by unfold fp;rw[h];simp only;rw[if_pos hr]
theorem GH (tmps:Array Value){W:World}{s:Nat}(h:CM W s)(h2:tmps[2]?=some (.pointer (some ⟨s,0,none⟩)))(h3:tmps[3]?=some (.pointer (some ⟨s+1,0,none⟩)))(v0 v1 v2 v3 v4 u0 u1 u2:Value)
  (hv:v0.oneCell'=true∧v1.oneCell'=true∧v2.oneCell'=true∧v3.oneCell'=true∧v4.oneCell'=true∧u0.oneCell'=true∧u1.oneCell'=true∧u2.oneCell'=true):
  (results Tryz.f113 tmps).run Tryz.prog (jz W s v0 v1 v2 v3 v4 u0 u1 u2)=.ok (.tuple #[.agg #[v0,v1,v2,v3,v4],.agg #[u0,u1,u2]]) (jz W s v0 v1 v2 v3 v4 u0 u1 u2):=by
 obtain⟨x0,x1,x2,x3,x4,y0,y1,y2,_,_,_,_,_,_,_,_⟩:=h
 simp(maxDischargeDepth:=10) [results,Tryz.results113,h2,h3,go_sem,x0,x1,x2,x3,x4,y0,y1,y2]
theorem tK (tmps:Array Value){W:World}{s:Nat}(h:CM W s)(h2:tmps[2]?=some (.pointer (some ⟨s,0,none⟩)))(h3:tmps[3]?=some (.pointer (some ⟨s+1,0,none⟩)))(v0 v1 v2 v3 v4 u0 u1 u2:Value)
  (hv:v0.oneCell'=true∧v1.oneCell'=true∧v2.oneCell'=true∧v3.oneCell'=true∧v4.oneCell'=true∧u0.oneCell'=true∧u1.oneCell'=true∧u2.oneCell'=true):
  (results Tryz.f113 tmps).run Tryz.prog (jz W s v0 v1 v2 v3 v4 u0 u1 u2).drew=.ok (.tuple #[.agg #[v0,v1,v2,v3,v4],.agg #[u0,u1,u2]]) (jz W s v0 v1 v2 v3 v4 u0 u1 u2).drew:=by
 obtain⟨x0,x1,x2,x3,x4,y0,y1,y2,_,_,_,_,_,_,_,_⟩:=h
 simp(maxDischargeDepth:=10) [results,Tryz.results113,h2,h3,go_sem,x0,x1,x2,x3,x4,y0,y1,y2]
theorem PR.start {W w1:World}{s:BA}{xs:List vZ}{A:OA}{n c:Nat}(h:we W w1 xs A n c)(hx:xs.map (fun x=>bl x.text)=dU (s.size+1) (bl s))(hz:∀ x∈xs,x.text.size≤s.size)(hs:s.size≤4294967280)(t:TypeId):PR (w1.alloc (.cells #[.slice A n c,.int .i64 0] t)) w1.heap.size (w1.heap.size+1) (bl s) 0 n:=by
 have hn:0<n:=by
  rw[←h.len,←List.length_map (f:=fun x:vZ=>bl x.text),hx]
  obtain⟨r,e,_⟩:=nf s.size (bl s)
  rw[e];simp
 rcases h.row.2 with⟨_,h0⟩ | ⟨g,cap,cur,hv,h1,h2,h3,h4,h5,h6⟩
 ·omega
 ·injection hv with hA _ hc
  subst hc
  have hg:g<w1.heap.size:=by rw[Array.getElem?_eq_some_iff] at h2;exact h2.1
  refine⟨⟨g,0,c,s.size,xs,?_,?_,h.len,hx,by rw[ag];exact Nat.le_refl _,by omega,by omega,h3,h4,fun x hx=>Nat.le_trans (hz x hx) hs⟩,by omega,by simp⟩
  ·rw[←hA];exact ax.new w1 [.slice A n c,.int .i64 0] t
  ·rw[←hA];exact(cH h.row).below (bR.alloc lr _)
theorem CT (s:BA)(w:World)(hG:Gl w)(hs:s.size≤1000000):
  Calls Tryz.prog 113 #[.string s] w (eJ s w):=by
 have HG:=ae hG
 obtain⟨W0,hW0⟩:∃ W0,(w.alloc (.cells #[.string ⟨#[]⟩,.string ⟨#[]⟩,.int .i64 0,.string ⟨#[]⟩,.slice none 0 0] 179)).alloc (.cells #[.string ⟨#[]⟩,.int .i64 0,.int .i64 0] 172)=W0:=⟨_,rfl⟩
 have T0:Hid (wj W0 w.heap.size):=by rw[←hW0];exact wj.new w _ _
 have B0:Hid (Below w.heap.size w W0):=by rw[←hW0];exact(bR.alloc lr _).alloc (by simp) _
 have Z0:Hid (W0.heap.size=w.heap.size+2):=by rw[←hW0];show _=_;simp
 clear hG
 go_enter Tryz.func113,Tryz.ntmps113
 go_wp2_with fail
 clear hW0
 refine(Cw s W0 (by omega)).mono ?_;rintro e w1 ⟨A,n,c,xs,rfl,hrow,hnn,hxs,hxz⟩
 obtain⟨W2,hW2⟩:∃ W2,w1.alloc (.cells #[.slice A n c,.int .i64 0] 227)=W2:=⟨_,rfl⟩
 have P2:Hid (PR W2 w1.heap.size (w1.heap.size+1) (bl s) 0 n):=by rw[←hW2];exact PR.start hrow hxs hxz (by omega) _
 have B2:Hid (Below w.heap.size w W2):=by rw[←hW2];exact(aq B0.out hrow.bel).alloc (by have:=hrow.bel.size;have:=Z0.out;omega) _
 have T2:Hid (wj W2 w.heap.size):=by rw[←hW2];exact(T0.out.below hrow.bel).below (bR.alloc lr _)
 have Z2:Hid (w.heap.size+2≤w1.heap.size):=by have:=hrow.bel.size;have:=Z0.out;show _≤_;omega
 have G2:Hid (pm w1.heap.size W2):=⟨w,HG.out,B2.out,by have:=Z2.out;omega⟩
 clear hrow hnn hxs hxz B0 T0
 go_upto_region 2 with(fail)
 clear hW2
 have hD:=(zT (2*(bl s).length+2)).1 w1.heap.size (w1.heap.size+1) 0 n 0 (bl s) W2 (by omega) G2.out P2.out (by omega) (by omega)
 have hD:=Calls.int hD (args':=#[.pointer (some ⟨w1.heap.size,0,none⟩),.int .i64 0]) rfl
 go_wp2_with fail
 refine hD.mono ?_;rintro e w3 ⟨hg,hpost⟩
 clear hD
 have T3:=ae (T2.out.off hg (by have:=Z2.out;omega))
 have B3:=ae (eD B2.out hg (by have:=Z2.out;omega))
 have Z3:Hid (w.heap.size+2≤w3.heap.size):=by have:=T3.out.b1.sz;have:=hg.size;have:=P2.out.hz;have:=Z2.out;show _≤_;omega
 cases hr:gx (2*(bl s).length+2) 0 0 (bl s) with
 | none=>
  rw[hr] at hpost
  obtain⟨ff,x,c,rfl,hc⟩:=hpost
  have EN:=ae (zU hr)
  have hc1:(c != 0)=true:=by simp[hc]
  have hc2:(c==0)=false:=by simp[hc]
  have HC:=uD.mk hc
  clear hr hc hg
  unfold ec
  rw[lX]
  go_upto_region 3 with(fail)
  obtain⟨W4,hW4⟩:∃ W4,(w3.alloc (.cells #[.string ⟨#[]⟩,.string ⟨#[]⟩,.int .i64 0,.string ⟨#[]⟩,.slice none 0 0] 179)).alloc (.cells #[.string ff,.int .i64 x,.int .i64 c] 172)=W4:=⟨_,rfl⟩
  have B4:Hid (Below w3.heap.size w3 W4):=by rw[←hW4];exact(bR.alloc lr _).alloc (by simp) _
  have K4:Hid (ax W4 (w3.heap.size+1) [.string ff,.int .i64 x,.int .i64 c]):=by
   have:=ax.new (w3.alloc (.cells #[.string ⟨#[]⟩,.string ⟨#[]⟩,.int .i64 0,.string ⟨#[]⟩,.slice none 0 0] 179)) [.string ff,.int .i64 x,.int .i64 c] 172
   rw[←hW4];show ax _ _ _;simpa using this
  have T4:=ae (T3.out.below B4.out)
  have B5:=ae (aq B3.out B4.out)
  rw[hW4]
  clear hW4 T3 B3 B4
  have d0:=K4.out.cell 0 _ rfl
  have d1:=K4.out.cell 1 _ rfl
  have d2:=K4.out.cell 2 _ rfl
  have tc:=T4.out.c
  obtain⟨x0,x1,x2,x3,x4,y0,y1,y2,g0,g1,g2,g3,g4,k0,k1,k2⟩:=tc
  have hne1:¬ w.heap.size=w3.heap.size+1:=by have:=Z3.out;omega
  have hne2:¬ w3.heap.size+1=w.heap.size:=by have:=Z3.out;omega
  have hne3:¬ w.heap.size=w3.heap.size:=by have:=Z3.out;omega
  have hne4:¬ w3.heap.size=w.heap.size:=by have:=Z3.out;omega
  go_wp2_with fail
  go_region
  go_wp2_with fail
  refine bodyPost_ret (tK _ T4.out.c rfl rfl _ _ _ _ _ _ _ _ ⟨rfl,rfl,rfl,rfl,rfl,rfl,rfl,rfl⟩) rfl ?_
  exact eJ.no EN.out (fq (nh B5.out lr _ _ _ _ _ _ _ _)) HC.out
 | some r=>
  obtain⟨t,l1,n1⟩:=r
  rw[hr] at hpost
  obtain⟨T,m1,rfl,hT,hgd,hown,hht,hn1,hn64,hpr,hm1⟩:=hpost
  have HT:=ae hT
  have HR:=ae hr
  have HGD:=ae hgd
  have HHT:Hid (T.ht≤32):=by show _≤_;omega
  have HCN:Hid (T.cnt≤64):=by show _≤_;omega
  obtain⟨W4,hW4⟩:∃ W4,(w3.alloc (.cells T.cells.toArray 179)).alloc (.cells #[.string ⟨#[]⟩,.int .i64 0,.int .i64 0] 172)=W4:=⟨_,rfl⟩
  have B4:Hid (Below w3.heap.size w3 W4):=by rw[←hW4];exact(bR.alloc lr _).alloc (by simp) _
  have D4:Hid (ax W4 w3.heap.size T.cells):=by rw[←hW4];exact(ax.new w3 T.cells _).alloc _
  have K4:Hid (ax W4 (w3.heap.size+1) [.string ⟨#[]⟩,.int .i64 0,.int .i64 0]):=by
   have:=ax.new (w3.alloc (.cells T.cells.toArray 179)) [.string ⟨#[]⟩,.int .i64 0,.int .i64 0] 172
   rw[←hW4];show ax _ _ _;simpa using this
  have T4:=ae (T3.out.below B4.out)
  have B5:=ae (aq B3.out B4.out)
  have P4:=ae (hpr.below B4.out)
  have O4:=ae ((hown.low B4.out).base (lo':=w.heap.size+2) (by have:=P2.out.sz;have:=Z2.out;omega))
  clear hr hT hgd hown hht hn1 hn64 hpr hm1 hg
  unfold ec aj.val
  go_upto_region 3 with(fail)
  have hW5:(w3.alloc (.cells #[.string T.op,.string T.nm,.int .i64 T.aop,.string T.ver,.slice T.ka T.kids.length T.kc] 179)).alloc (.cells #[.string ⟨#[]⟩,.int .i64 0,.int .i64 0] 172)=W4:=hW4
  rw[hW5]
  clear hW4 hW5 T3 B3 B4
  have e0:=K4.out.cell 0 _ rfl
  have e1:=K4.out.cell 1 _ rfl
  have e2:=K4.out.cell 2 _ rfl
  have tc:=T4.out.c
  obtain⟨x0,x1,x2,x3,x4,y0,y1,y2,g0,g1,g2,g3,g4,k0,k1,k2⟩:=tc
  obtain⟨b5,off5,c5,P,q,k5,hP,-⟩:=P4.out.cells
  have HP:=ae hP
  obtain⟨r0,r1,r2,r3,r4,r5,r6,r7,r8,r9,tz5⟩:=k5
  clear hP
  by_cases hp:bl P=[]
  ·have E1:P.toList=[]:=by rw[ah];exact hp
   have E2:P.toList.isEmpty=true:=by rw[E1];rfl
   have EY:Hid (fp (bl s)=some T.pl):=by show _=_;rw[HT.out];exact zX HR.out (by rw[←HP.out];exact hp)
   have d0:=D4.out.cell 0 _ rfl
   have d1:=D4.out.cell 1 _ rfl
   have d2:=D4.out.cell 2 _ rfl
   have d3:=D4.out.cell 3 _ rfl
   have d4:=D4.out.cell 4 _ rfl
   clear hp
   go_wp2_with fail
   refine bodyPost_ret (GH _ T4.out.c rfl rfl _ _ _ _ _ _ _ _ ⟨rfl,rfl,rfl,rfl,rfl,rfl,rfl,rfl⟩) rfl ?_
   exact eJ.yes EY.out (nh B5.out lr _ _ _ _ _ _ _ _) HGD.out ((tF O4.out (by omega) _ _ _ _ _ _ _ _).base (by omega)) HHT.out HCN.out
  ·have E1:(P.toList==([]:LU))=false:=by rw[ah,bF];exact hp
   have E2:P.toList.isEmpty=false:=by rw[ah,List.isEmpty_eq_false_iff];exact hp
   have E3:¬ P.toList=[]:=by rw[ah];exact hp
   have EN:Hid (fp (bl s)=none):=zV HR.out (by rw[←HP.out];exact hp)
   clear hp
   go_wp2_with fail
   refine(dM P q 3 _).mono ?_;rintro e w5 ⟨rfl,hb⟩
   have B6:=ae (aq B5.out hb)
   have T6:=ae (T4.out.below hb)
   have K6:=ae (K4.out.below hb)
   clear hb e0 e1 e2 x0 x1 x2 x3 x4 y0 y1 y2 g0 g1 g2 g3 g4 k0 k1 k2 r0 r1 r2 r3 r4 r5 r6 r7 r8 r9
   have e0:=K6.out.cell 0 _ rfl
   have e1:=K6.out.cell 1 _ rfl
   have e2:=K6.out.cell 2 _ rfl
   have h0:=K6.out.free 0 (by simp)
   have h1:=K6.out.free 1 (by simp)
   have h2:=K6.out.free 2 (by simp)
   unfold ec
   go_upto_region 5 with(fail)
   clear e0 e1 e2 h0 h1 h2
   obtain⟨W7,hW7⟩:∃ W7,((w5.setCell ⟨w3.heap.size+1,0,none⟩ (.string ⟨#[]⟩)).setCell ⟨w3.heap.size+1,1,none⟩ (.int .i64 q)).setCell ⟨w3.heap.size+1,2,none⟩ (.int .i64 3)=W7:=⟨_,rfl⟩
   have K7:Hid (ax W7 (w3.heap.size+1) [.string ⟨#[]⟩,.int .i64 q,.int .i64 3]):=by rw[←hW7];exact((K6.out.set 0 (by simp) (.string ⟨#[]⟩)).set 1 (by simp) (.int .i64 q)).set 2 (by simp) (.int .i64 3)
   have ha:w.heap.size+1<w3.heap.size+1:=by have:=Z3.out;omega
   have T7:Hid (wj W7 w.heap.size):=by rw[←hW7];exact((T6.out.off (aN _) ha).off (aN _) ha).off (aN _) ha
   have B7:Hid (Below w.heap.size w W7):=by rw[←hW7];exact ak (ak (ak B6.out (by omega) _) (by omega) _) (by omega) _
   rw[hW7]
   clear hW7 T6 B6 K6 ha
   have e0:=K7.out.cell 0 _ rfl
   have e1:=K7.out.cell 1 _ rfl
   have e2:=K7.out.cell 2 _ rfl
   have tc:=T7.out.c
   obtain⟨x0,x1,x2,x3,x4,y0,y1,y2,g0,g1,g2,g3,g4,k0,k1,k2⟩:=tc
   have hne1:¬ w.heap.size=w3.heap.size+1:=by have:=Z3.out;omega
   have hne2:¬ w3.heap.size+1=w.heap.size:=by have:=Z3.out;omega
   have hne3:¬ w.heap.size=w3.heap.size:=by have:=Z3.out;omega
   have hne4:¬ w3.heap.size=w.heap.size:=by have:=Z3.out;omega
   go_wp2_with fail
   go_region
   go_wp2_with fail
   refine bodyPost_ret (tK _ T7.out.c rfl rfl _ _ _ _ _ _ _ _ ⟨rfl,rfl,rfl,rfl,rfl,rfl,rfl,rfl⟩) rfl ?_
   exact eJ.no EN.out (fq (nh B7.out lr _ _ _ _ _ _ _ _)) (by decide)
end
end Go.Proofs.YtaohgmcbpafdeaaGreatDoor
