/- A part of the proof. -/
import Derived.Test.YtaohgmcbpafdeaaGreatDoorA33
import Derived.Test.YtaohgmcbpafdeaaGreatDoorA34
set_option maxRecDepth 100000
set_option maxHeartbeats 20000000
set_option linter.unusedVariables false
set_option linter.unusedSimpArgs false
namespace Go.Proofs.YtaohgmcbpafdeaaGreatDoor
section
open Go.RowKit Go.Deep
structure xy (w wr:World) (a:Nat) (s:BA) (k n:Nat) (c:Int) (gs:List bj) (A:OA) (m cc:Nat):Prop where
 len:gs.length=m
 row:wr.ownsRow w.heap.size 218 1 (.slice A m cc) m (gs.map bj.sl)
 grp:∀ g∈gs,g.own wr w.heap.size
 dr:DR wr a s k n c
 gr:w.grownBy wr (some a)
 lt:a<w.heap.size
theorem xy.step {w wr w':World}{a:Nat}{s:BA}{k k' n n':Nat}{c c':Int}{gs:List bj}{A:OA}{m cc:Nat}(h:xy w wr a s k n c gs A m cc)(hg:wr.grownBy w' (some a))(hd:DR w' a s k' n' c'):xy w w' a s k' n' c' gs A m cc:=
 ⟨h.len,bN h.row h.lt hg,fun t ht=>(h.grp t ht).kept h.lt hg,hd,ai h.gr hg,h.lt⟩
theorem xy.below {w wr w':World}{a:Nat}{s:BA}{k n:Nat}{c:Int}{gs:List bj}{A:OA}{m cc:Nat}(h:xy w wr a s k n c gs A m cc)(hb:Below wr.heap.size wr w'):xy w w' a s k n c gs A m cc:=
 h.step (dj hb _) (h.dr.below hb)
theorem xy.alloc {w wr:World}{a:Nat}{s:BA}{k n:Nat}{c:Int}{gs:List bj}{A:OA}{m cc:Nat}(h:xy w wr a s k n c gs A m cc)(o:Obj):xy w (wr.alloc o) a s k n c gs A m cc:=h.below (bR.alloc lr o)
theorem xy.drewN {w wr:World}{a:Nat}{s:BA}{k n:Nat}{c:Int}{gs:List bj}{A:OA}{m cc:Nat}(h:xy w wr a s k n c gs A m cc)(j:Nat):xy w (wr.drewN j) a s k n c gs A m cc:=h.below ⟨rfl,rfl,rfl,lr,fun _ _=>rfl⟩
theorem bj.own.other {G:bj}{w w2:World}{lo lo':Nat}{z n:Nat}{v:Value}{xs:LV}(h:G.own w lo)(h2:w.ownsRow lo' 218 z v n xs)(hg:w.grownBy w2 v.ownBlock):G.own w2 lo:=
 ⟨kn h.row h2 (by decide) hg,fun t ht=>kn (h.archs t ht) h2 (by decide) hg⟩
theorem xy.grow {w wr w2:World}{a:Nat}{s:BA}{k n:Nat}{c:Int}{gs:List bj}{A A1:OA}{m cc c1:Nat}{o:Obj}{G:bj}(h:xy w wr a s k n c gs A m cc)(hG:G.own wr w.heap.size)
  (hr:w2.ownsRow w.heap.size 218 1 (.slice A1 (m+1) c1) (m+1) (gs.map bj.sl++[G.sl]))
  (hg:(wr.alloc o).grownBy w2 (Value.slice A m cc).ownBlock):xy w w2 a s k n c (gs++[G]) A1 (m+1) c1:=by
 have ho:=h.alloc o
 have hG':G.own (wr.alloc o) w.heap.size:=hG.below (bR.alloc lr o)
 refine⟨by simp[h.len],by rw[List.map_append];simpa using hr,fun t ht=>?_,ho.dr.kept hg ?_,gu ho.gr hg (fun j hj=>(h.row.lt j hj).1),h.lt⟩
 ·rcases List.mem_append.1 ht with ht | ht
  ·exact(ho.grp t ht).other ho.row hg
  ·obtain rfl:=List.mem_singleton.1 ht
   exact hG'.other ho.row hg
 ·intro e;have:=(h.row.lt a e.symm).1;have:=h.lt;omega
def Cl (L:List (List du)):Nat:=(L.map List.length).sum
theorem F6 (L:List (List du))(g:List du):Cl (L++[g])=Cl L+g.length:=by simp[Cl]
theorem Ji (L:List (List du)):uL L=true↔L.all (fun g=>g.all du.right)=true∧Cl L≤64:=by unfold uL Cl;simp
def eQ (r:Option (List (List du)))(a:Nat)(s:BA)(w:World)(e:Ending)(w':World):Prop:=
 match r with
  | none=>w.grownBy w' (some a)∧e=.returned (.tuple #[.slice none 0 0,.bool false])∧∃ (p' n':Nat) (c':Int),DR w' a s p' n' c'
  | some L=>∃ (A:OA) (m cc:Nat) (gs:List bj) (p' n':Nat) (c':Int),e=.returned (.tuple #[.slice A m cc,.bool true])∧xy w w' a s p' n' c' gs A m cc∧gs.map bj.pl=L∧(c'=0↔uL L=true)
theorem eQ.no {r:Option (List (List du))}{a:Nat}{s:BA}{p' n':Nat}{c':Int}{w w':World}(hr:r=none)(hg:w.grownBy w' (some a))(h:DR w' a s p' n' c'):eQ r a s w (.returned (.tuple #[.slice none 0 0,.bool false])) w':=by
 subst hr;exact⟨hg,rfl,p',n',c',h⟩
theorem eQ.yes {r:Option (List (List du))}{a:Nat}{s:BA}{p' n':Nat}{c':Int}{w w':World}{gs:List bj}{A:OA}{m cc:Nat}(hr:r=some (gs.map bj.pl))(h:xy w w' a s p' n' c' gs A m cc)(hc:c'=0↔uL (gs.map bj.pl)=true):eQ r a s w (.returned (.tuple #[.slice A m cc,.bool true])) w':=by
 subst hr;exact⟨A,m,cc,gs,p',n',c',rfl,h,rfl,hc⟩
theorem Cm (a:Nat)(s:BA)(w:World)(hs:s.size≤4294967280)(hG:pm a w)(h:DR w a s 0 0 0):
  Calls Tryz.prog 155 #[.pointer (some ⟨a,0,none⟩)] w (eQ (lh (bl s)) a s w):=by
 obtain⟨i0,hi0,hz0,hz1,hz2⟩:=info_parts Jh
 have HG:=ae hG
 obtain⟨q,hq⟩:∃ q,0+aA aO ((bl s).drop 0)=q:=⟨_,rfl⟩
 have hB:=aF a s 0 0 0 w hs h
 rw[hq] at hB
 have SK:Hid (aH (bl s)=(bl s).drop q):=by have:=bK s 0;rw[hq,List.drop_zero] at this;exact this
 have hlt:=h.sz
 generalize hRR:lh (bl s)=RR
 clear hG h hq
 go_enter Tryz.func155,Tryz.ntmps155
 go_wp2_with fail
 refine hB.mono ?_;rintro e w1 ⟨rfl,hd,hg⟩
 have S1:Hid (xy w w1 a s q 0 0 [] none 0 0):=⟨rfl,World.ownsRow_nil _ _ _ _,by simp,hd,hg,hlt⟩
 have hqs:=hd.le
 obtain⟨f1,y1,k1⟩:=hd.cells
 have c0:=k1.c0
 have c1:=k1.c1
 clear hd hg hB k1
 by_cases hqe:q=s.size
 ·have EN:Hid (RR=some (([]:List bj).map bj.pl)):=by
   show _=_;rw[←hRR];unfold lh;rw[SK.out,jO s q (by omega)];rfl
  subst hqe
  clear hRR
  go_wp2_with fail
  go_quiet (fail)
  go_wp2_with fail
  go_ret2
  exact eQ.yes EN.out (S1.out.drewN _) (by simp[uL])
 ·have hqlt:q<s.size:=by omega
  have E0:Hid (RR=di (s.size+1) [] ((bl s).drop q)):=by
   show _=_;rw[←hRR];unfold lh;rw[SK.out,←sy,ag,if_neg];rw[cX s q hqlt];simp
  have hq1:((q:Int)==(s.size:Int))=false:=by simp;omega
  have HF0:Hid (s.size-q≤s.size):=by show _≤_;omega
  clear hRR SK
  go_wp2_with fail
  go_quiet (fail)
  clear c0 c1 hq1 hqe
  have S2:=ae (S1.out.drewN nq)
  clear S1
  go_wp2_with fail
  go_loopw [2,3,4] (fun s2 s3 l wr=>∃ (k m cc f n':Nat) (c':Int) (gs:List bj) (A:OA),s2=.slice none 0 0∧s3=.bool false∧l=.slice A m cc∧k≤s.size∧m≤k∧Hid (xy w wr a s k n' c' gs A m cc)∧Hid (RR=di (f+1) (gs.map bj.pl) ((bl s).drop k))∧Hid (s.size-k≤f)∧Hid (n'=Cl (gs.map bj.pl))∧Hid (c'=0↔(gs.map bj.pl).all (fun g=>g.all du.right)=true∧n'≤64)) (fun _ _ _ wr=>s.size-xt a wr)
  case atStart=>exact⟨q,0,0,s.size,0,0,[],none,rfl,rfl,rfl,hqs,z0,S2,E0,HF0,rfl,by show _↔_;simp⟩
  case round=>
   clear S2 E0 HF0
   obtain⟨k,m,cc,f,n',c',gs,A,rfl,rfl,rfl,hk,hmk,HS,HE,HF,HN,HC⟩:=hrel
   have HCN:Hid (c'=0→n'≤64):=by have:=HC.out;show _→_;intro h;exact(this.1 h).2
   have HFL:Hid (s.size-k<((bl s).drop k).length+1):=by show _<_;rw[List.length_drop,ag];omega
   go_wp2_with fail
   refine(Ck _ a s k n' c' wr hs HFL.out (HG.out.kept HS.out.gr) HS.out.dr HCN.out).mono ?_;rintro e w2 ⟨hg,hpost⟩
   cases ht:dZ (((bl s).drop k).length+1) ((bl s).drop k) with
   | none=>
    rw[ht] at hpost
    obtain⟨rfl,p',m',d',hd⟩:=hpost
    have S2:=ae (HS.out.step hg hd);clear hd hg
    have EN:Hid (RR=none):=by show _=_;rw[HE.out];exact uO ht
    clear ht
    go_wp2_with fail
    go_ret2
    exact eQ.no EN.out S2.out.gr S2.out.dr
   | some x=>
    obtain⟨g,r⟩:=x
    rw[ht] at hpost
    obtain⟨G,p',d',rfl,hGp,hGo,hd,hpp,hdr,hcc⟩:=hpost
    have S2:=ae (HS.out.step hg hd)
    have HGO:=ae (hGo.base (lo':=w.heap.size) HS.out.gr.size)
    have hps':=hd.le
    have N2:Hid (n'+g.length=Cl ((gs++[G]).map bj.pl)):=by
     have:=HN.out;show _=_;rw[List.map_append,List.map_cons,List.map_nil,F6,hGp];omega
    have C2:Hid (d'=0↔((gs++[G]).map bj.pl).all (fun g=>g.all du.right)=true∧n'+g.length≤64):=by
     have h1:=HC.out
     show _↔_
     rw[hcc,h1,List.map_append,List.all_append]
     simp only[List.map_cons,List.map_nil,List.all_cons,List.all_nil,Bool.and_true,Bool.and_eq_true,hGp]
     constructor
     ·rintro⟨⟨a1,a2⟩,a3,a4⟩;exact⟨⟨a1,a3⟩,a4⟩
     ·rintro⟨⟨a1,a3⟩,a4⟩;exact⟨⟨a1,by omega⟩,a3,a4⟩
    have HD:=ae hdr
    have HT:=ae hGp
    have HTM:=ae ht
    have hmm:m≤4294967280:=by omega
    have HKK:Hid (k<p'):=hpp
    generalize n'+g.length=n2 at S2 N2 C2 hd
    obtain⟨gl,hgl⟩:∃ gl,G.ts.length=gl:=⟨_,rfl⟩
    have GSL:Hid (G.sl=.slice G.ga gl G.gc):=by show _=_;unfold bj.sl;rw[hgl]
    rw[hgl]
    clear ht hGp hGo hd hg hdr hcc hpp hgl HCN HFL
    go_wp2_with (at_builtin;refine aD _ rfl _ _ _ rfl w.heap.size 218 i0 _ 1 24 Tryz.underlying173 hi0 hz0 hz1 hz2 rfl (by omega) (.slice A m cc) m _ rfl (S2.out.row.alloc _) (w2.heap.size+1) (some ⟨w2.heap.size,0,none⟩) 1 1 [.slice G.ga gl G.gc] rfl (fv w2 _ _) (by simp[Value.oneCell']) (by simp only[maxLen];omega) (by omega) (by simp;have:=S2.out.gr.size;omega) ?_;intro v1 w3 o1 g1 a1)
    obtain⟨A3,c3,rfl⟩:=aP o1
    have S3:=ae (S2.out.grow (G:=G) HGO.out (by rw[GSL.out];exact o1) g1)
    clear o1 g1 a1
    obtain⟨f1,y1,k1⟩:=S3.out.dr.cells
    have c0:=k1.c0
    have c1:=k1.c1
    clear k1
    by_cases hpe:p'=s.size
    ·have EN:Hid (RR=some ((gs++[G]).map bj.pl)):=by
      show _=_
      rw[HE.out,xp (g:=g) (by rw[HTM.out,←HD.out,jO s p' (by omega)]),List.map_append];simp[HT.out]
     have CF:Hid (d'=0↔uL ((gs++[G]).map bj.pl)=true):=by show _↔_;rw[C2.out,Ji,N2.out]
     subst hpe
     go_wp2_with fail
     go_quiet (fail)
     go_wp2_with fail
     go_ret2
     exact eQ.yes EN.out (S3.out.drewN _) CF.out
    ·have hp1:((p':Int)==(s.size:Int))=false:=by simp;omega
     have RE:Hid (r.isEmpty=false):=by show _=_;rw[←HD.out,cX s p' (by omega)];rfl
     clear hpe
     go_wp2_with fail
     go_quiet (fail)
     have S4:=ae (S3.out.drewN nq)
     clear c0 c1 hp1 S3
     cases hb:ay 44 ((bl s).drop p') with
     | false=>
      have HB:=ae hb
      have EN:Hid (RR=none):=by show _=_;rw[HE.out];exact xq HTM.out RE.out (by rw[←HD.out];exact hb)
      clear hb
      go_wp2_with fail
      refine(aC 44 a s p' _ d' _ hs S4.out.dr HB).mono ?_;rintro e w4 ⟨rfl,hd,hg⟩
      have S5:=ae (S4.out.step hg hd);clear hd hg
      go_wp2_with fail
      go_ret2
      exact eQ.no EN.out S5.out.gr S5.out.dr
     | true=>
      have HB:=ae hb
      obtain⟨k2,hk2⟩:∃ k2,p'+1+aA aO ((bl s).drop (p'+1))=k2:=⟨_,rfl⟩
      have EN:Hid (RR=di (f-1+1) ((gs++[G]).map bj.pl) ((bl s).drop k2)):=by
       have hf:=HF.out;have h2:=HKK.out
       show _=_
       rw[HE.out,uP HTM.out (by rw[←HD.out];exact hb),←HD.out,List.drop_drop,bK,hk2,List.map_append,show f-1+1=f by omega];simp[HT.out]
      have HB2:=ae (fun (W:World) (hD:DR W a s (p'+1) n2 d')=>aF a s (p'+1) n2 d' W hs hD)
      rw[hk2] at HB2
      have HK2:Hid (k<k2):=by have:=HKK.out;show _<_;omega
      have HF2:Hid (s.size-k2≤f-1):=by have:=HF.out;have:=HK2.out;show _≤_;omega
      have hmk2:m+1≤k2:=by have:=HK2.out;omega
      clear hb hk2
      go_wp2_with fail
      refine(aJ 44 a s p' _ d' _ hs S4.out.dr HB).mono ?_;rintro e w4 ⟨rfl,hd,hg⟩
      have S5:=ae (S4.out.step hg hd);clear hd hg
      go_wp2_with fail
      refine(HB2.out w4 S5.out.dr).mono ?_;rintro e w5 ⟨rfl,hd,hg⟩
      have S6:=ae (S5.out.step hg hd);clear hd hg
      have hk2s:=S6.out.dr.le
      go_wp2_with fail
      go_roundw
      case rel=>exact⟨k2,m+1,c3,f-1,n2,d',gs++[G],A3,rfl,rfl,rfl,hk2s,hmk2,S6,EN,HF2,N2,C2⟩
      case measure=>exact DR.dec S6.out.dr HS.out.dr HK2.out
def Cn (gs:List bj):Prop:=∀ g∈gs,∀ t∈g.ts,t.archs.length≤t.ac
theorem Ga {w:World}{lo:Nat}{gs:List bj}(hg:∀ g∈gs,g.own w lo):Cn gs:=fun g hm t ht=>ll ((hg g hm).archs t ht)
structure ic (w:World) (lo:Nat) (A:OA) (n c:Nat) (gs:List bj):Prop where
 len:gs.length=n
 row:w.ownsRow lo 218 1 (.slice A n c) n (gs.map bj.sl)
 grp:∀ g∈gs,g.own w lo
theorem ic.ok {w:World}{lo:Nat}{A:OA}{n c:Nat}{gs:List bj}(h:ic w lo A n c gs):ov w A gs:=
 ⟨by rw[h.len];exact cH h.row,fun g hm=>cH (h.grp g hm).row,fun g hm t ht=>cH ((h.grp g hm).archs t ht)⟩
theorem ic.cap {w:World}{lo:Nat}{A:OA}{n c:Nat}{gs:List bj}(h:ic w lo A n c gs):Cn gs:=Ga h.grp
theorem ic.kept {w w':World}{lo g:Nat}{A:OA}{n c:Nat}{gs:List bj}(h:ic w lo A n c gs)(hg:g<lo)(hw:w.grownBy w' (some g)):ic w' lo A n c gs:=⟨h.len,bN h.row hg hw,fun x hx=>(h.grp x hx).kept hg hw⟩
theorem ic.below {w w':World}{lo:Nat}{A:OA}{n c:Nat}{gs:List bj}(h:ic w lo A n c gs)(hb:Below w.heap.size w w'):ic w' lo A n c gs:=⟨h.len,cR h.row hb,fun x hx=>(h.grp x hx).below hb⟩
def Co (r:Option (List (List du)))(w:World)(e:Ending)(w':World):Prop:=
 ∃ (A:OA) (n c:Nat) (f:BA) (a code:Int),e=.returned (.tuple #[.slice A n c,ec f a code])∧Below w.heap.size w w' ∧
  (match r with
   | some L=>code=0∧∃ gs:List bj,gs.map bj.pl=L∧ic w' w.heap.size A n c gs
   | none=>code≠0∧A=none∧n=0)
theorem zw {l:LU}(h:lh l=none):gt l=none:=by unfold gt;rw[h]
theorem Cp {l:LU}{L:List (List du)}(h:lh l=some L)(h1:¬ uL L=true):gt l=none:=by unfold gt;rw[h];simp[h1]
theorem zx {l:LU}{L:List (List du)}(h:lh l=some L)(h1:uL L=true):gt l=some L:=by unfold gt;rw[h];simp[h1]
theorem Cq (s:BA)(w:World)(hG:Gl w)(hs:s.size≤4294967280):
  Calls Tryz.prog 111 #[.string s] w (Co (gt (bl s)) w):=by
 obtain⟨W1,hW1⟩:∃ W1,(w.alloc (.cells #[.string ⟨#[]⟩,.int .i64 0,.int .i64 0] 172)).alloc (.cells #[.string s,.int .i64 0,.int .i64 0,.string ⟨#[]⟩,.int .i64 0,.int .i64 0] 214)=W1:=⟨_,rfl⟩
 have B1:Hid (Below w.heap.size w W1):=by rw[←hW1];exact(bR.alloc lr _).alloc (by simp) _
 have K1:Hid (ax W1 w.heap.size [.string ⟨#[]⟩,.int .i64 0,.int .i64 0]):=by rw[←hW1];exact(ax.new w [.string ⟨#[]⟩,.int .i64 0,.int .i64 0] _).alloc _
 have D1:Hid (DR W1 (w.heap.size+1) s 0 0 0):=by
  refine⟨⟨⟨#[]⟩,0,?_⟩,z0,lr⟩
  have:=ax.new (w.alloc (.cells #[.string ⟨#[]⟩,.int .i64 0,.int .i64 0] 172)) [.string s,.int .i64 0,.int .i64 0,.string ⟨#[]⟩,.int .i64 0,.int .i64 0] 214
  rw[←hW1];simpa using this
 have HG:Hid (pm (w.heap.size+1) W1):=⟨w,hG,B1.out,Nat.le_succ _⟩
 have hz1:w.heap.size<W1.heap.size:=K1.out.sz
 clear hG
 go_enter Tryz.func111,Tryz.ntmps111
 go_wp2_with fail
 clear hW1
 refine(Cm (w.heap.size+1) s W1 hs HG.out D1.out).mono ?_;rintro e w2 hpost
 cases hf:lh (bl s) with
 | none=>
  rw[hf] at hpost
  obtain⟨hg,rfl,p',n',c',hd⟩:=hpost
  have EN:=ae (zw hf)
  have K2:=ae (K1.out.grownBy hg (by intro e;injection e with e;omega))
  have B2:=ae (eD B1.out hg (Nat.le_succ _))
  obtain⟨f,y,k⟩:=hd.cells
  have c1:=k.c1
  have r0:=K2.out.cell 0 _ rfl
  have r1:=K2.out.cell 1 _ rfl
  have r2:=K2.out.cell 2 _ rfl
  have fr0:=K2.out.free 0 (by simp)
  have fr1:=K2.out.free 1 (by simp)
  have fr2:=K2.out.free 2 (by simp)
  clear hf hg hd k
  go_wp2_with fail
  go_region
  go_wp2_with fail
  refine bodyPost_ret (v:=.tuple #[.slice none 0 0,.agg #[.string ⟨#[]⟩,.int .i64 p',.int .i64 3]]) (by simp[results,Tryz.results111,go_sem,r0,r1,r2]) rfl ?_
  refine⟨none,0,0,⟨#[]⟩,p',3,rfl,?_,by rw[EN.out];exact⟨by decide,rfl,rfl⟩⟩
  exact(ak (ak (ak B2.out lr _) lr _) lr _).drew
 | some L=>
  rw[hf] at hpost
  obtain⟨A,m,cc,gs,p',n',c',rfl,hS,hL,hcc⟩:=hpost
  have HS:=ae hS
  have K2:=ae (K1.out.grownBy hS.gr (by intro e;injection e with e;omega))
  have B2:=ae (eD B1.out hS.gr (Nat.le_succ _))
  obtain⟨f,y,k⟩:=hS.dr.cells
  have c3:=k.c3
  have c4:=k.c4
  have c5:=k.c5
  have r0:=K2.out.cell 0 _ rfl
  have r1:=K2.out.cell 1 _ rfl
  have r2:=K2.out.cell 2 _ rfl
  have fr0:=K2.out.free 0 (by simp)
  have fr1:=K2.out.free 1 (by simp)
  have fr2:=K2.out.free 2 (by simp)
  by_cases hc:c'=0
  ·have EN:=ae (zx hf (hcc.1 hc))
   have HL:=ae hL
   subst hc
   have hml:=hS.len
   have hlo:w.heap.size≤W1.heap.size:=Nat.le_of_lt hz1
   have F3:Hid (ic (((w2.setCell ⟨w.heap.size,0,none⟩ (.string ⟨#[]⟩)).setCell ⟨w.heap.size,1,none⟩ (.int .i64 0)).setCell ⟨w.heap.size,2,none⟩ (.int .i64 0)) w.heap.size A m cc gs):=by
    refine⟨hml,?_,?_⟩
    ·exact dV (bN (bN (bN hS.row hz1 (aN _)) hz1 (aN _)) hz1 (aN _)) hlo
    ·exact fun g hg=>((((hS.grp g hg).kept hz1 (aN _)).kept hz1 (aN _)).kept hz1 (aN _)).base hlo
   clear hf hL hcc k hS hml
   go_wp2_with fail
   refine bodyPost_ret (v:=.tuple #[.slice A m cc,.agg #[.string ⟨#[]⟩,.int .i64 0,.int .i64 0]]) (by simp[results,Tryz.results111,go_sem,r0,r1,r2]) rfl ?_
   refine⟨A,m,cc,⟨#[]⟩,0,0,rfl,?_,?_⟩
   ·exact ak (ak (ak B2.out lr _) lr _) lr _
   ·rw[EN.out];exact⟨rfl,gs,HL.out,F3.out⟩
  ·have EN:=ae (Cp hf (fun h=>hc (hcc.2 h)))
   have HC:=uD.mk hc
   have hc1:(c' != 0)=true:=by simp[hc]
   clear hf hL hcc k hS hc
   go_wp2_with fail
   go_region
   go_wp2_with fail
   refine bodyPost_ret (v:=.tuple #[.slice none 0 0,.agg #[.string f,.int .i64 y,.int .i64 c']]) (by simp[results,Tryz.results111,go_sem,r0,r1,r2]) rfl ?_
   refine⟨none,0,0,f,y,c',rfl,?_,by rw[EN.out];exact⟨HC.out,rfl,rfl⟩⟩
   exact(ak (ak (ak B2.out lr _) lr _) lr _).drew
theorem Jk (k:Nat)(hk:k<6):bl (yz k)=Ox k:=by
 rcases(by omega:k=0∨k=1∨k=2∨k=3∨k=4∨k=5) with rfl | rfl | rfl | rfl | rfl | rfl<;>rfl
theorem DZ (k:Nat):(Ox k).length≤2:=by unfold Ox;split<;>simp
def mF (q:LU):LU:=if q.isEmpty then [] else 58::q
def uT (op:Nat)(v:LU):LU:=if op=0 then [] else [32,40]++Ox op++[32]++v++[41]
def sW (a:List (LU)):LU:=if a.isEmpty then [] else [32,91]++Lib.join a [32]++[93]
theorem sX (t:du):t.text=t.name++mF t.qual++uT t.op t.ver++sW t.archs:=rfl
theorem zB (op:Nat)(v:LU):(uT op v).length≤v.length+6:=by
 have:=DZ op;unfold uT;split<;>simp;omega
theorem Gd (a:List (LU))(h:∀ x∈a,x.length≤33)(hn:a.length≤1000000):(sW a).length≤34000003:=by
 have:=lS [32] 33 a h
 unfold sW;split
 ·simp
 ·simp at this ⊢;omega
theorem Ge (t:cA)(h:t.okT)(w:World)(hG:Gl w)(hr:Rd w 1 t.aa t.archs.length (az t.archs))(hac:t.archs.length≤t.ac):
  Calls Tryz.prog 157 #[t.val] w fun e w'=>e=.returned (.string (bC t.pl.text))∧Below w.heap.size w w':=by
 rw[sX]
 unfold cA.val cA.pl
 obtain⟨h1,h2,h3,h4,h5,h6,h7,h8,h9,h10,h11⟩:=h
 have HG:=ae hG;have HR:=ae hr
 have HZ:=ae h10
 have HQ:=ae h2
 clear hG hr h1 h2 h3 h10 h5 h6
 obtain⟨nm,op,ver,qual,aa,ac,archs⟩:=t
 simp only at *
 have JL:Hid ((Lib.join (archs.map bl) [32]).length≤34000000):=by
  have:=lS [32] 33 (archs.map bl) (fun x hx=>by obtain⟨y,hy,rfl⟩:=List.mem_map.1 hx;rw[ag];exact HZ.out y hy)
  rw[List.length_map] at this;show _≤_;simp at this;omega
 have HJ:=ae (fun (W:World) (hb:Below w.heap.size w W)=>ox aa ac archs ⟨#[32]⟩ W (HR.out.below hb) hac (by omega) (by have:=JL.out;rw[show bl ⟨#[32]⟩=[32] from rfl];omega))
 obtain⟨W1,hW1⟩:∃ W1,w.alloc (.cells #[.string nm,.int .i64 op,.string ver,.string qual,.slice aa archs.length ac] 220)=W1:=⟨_,rfl⟩
 have K1:Hid (ax W1 w.heap.size [.string nm,.int .i64 op,.string ver,.string qual,.slice aa archs.length ac]):=by rw[←hW1];exact ax.new w _ _
 have B1:Hid (Below w.heap.size w W1):=by rw[←hW1];exact bR.alloc lr _
 obtain⟨al,hal⟩:∃ al,archs.length=al:=⟨_,rfl⟩
 rw[hal] at K1 HJ hW1 h11
 rw[hal]
 have HAL:=ae hal
 clear hal hac
 obtain⟨c0,c1,c2,c3,c4,f0,f1,f2,f3,f4⟩:=K1.out.five
 clear f0 f1 f2 f3 f4
 go_enter Tryz.func157,Tryz.ntmps157
 obtain⟨bq,hbq⟩:∃ bq,qual.toList.isEmpty=bq:=⟨_,rfl⟩
 have HBQ:Hid (decide (qual.size=0)=bq):=by show _=_;rw[←aT,←ah];exact hbq
 go_upto_if 9 with(fail)
 clear hW1 hbq
 go_cut [3] (fun v wx=>∃ S:BA,v=.string S∧S.size≤100∧W1=wx∧Hid (bl S=bl nm++mF (bl qual)))
 case first=>
  cases bq with
  | true=>
   have E:Hid (bl nm=bl nm++mF (bl qual)):=by show _=_;rw[bG qual (dO HBQ.out)];simp[mF]
   go_wp2_with fail
   go_meet
   exact⟨nm,rfl,by omega,rfl,E⟩
  | false=>
   have E:Hid (bl (nm++(⟨#[58]⟩++qual))=bl nm++mF (bl qual)):=by
    show _=_;rw[cj,cj];unfold mF;rw[aT,HBQ.out];rfl
   have hz:(nm++(⟨#[58]⟩++qual)).size≤100:=by rw[←ag,cj,cj];simp[ag];have:(⟨#[58]⟩:BA).size=1:=rfl;omega
   have HZ2:=ae hz
   clear hz
   go_wp2_with fail
   go_meet
   exact⟨_,rfl,HZ2.out,rfl,E⟩
 case rest=>
 obtain⟨S,rfl,hS,rfl,ES⟩:=hcut
 have hsg:=(HG.out.below B1.out).dsg op (by omega)
 have hsz:(yz op).size≤2:=by rw[←ag,Jk op (by omega)];exact DZ _
 go_upto_if 18 with(fail)
 go_cut [3] (fun v wx=>∃ S2:BA,v=.string S2∧S2.size≤200∧Hid (Below w.heap.size w wx)∧Hid (ax wx w.heap.size [.string nm,.int .i64 op,.string ver,.string qual,.slice aa al ac])∧Hid (bl S2=bl S++uT op (bl ver)))
 case first=>
  by_cases o0:op=0
  ·have E:Hid (bl S=bl S++uT op (bl ver)):=by show _=_;simp[uT,o0]
   have o1:((op:Int) != 0)=false:=by simp[o0]
   clear o0
   go_wp2_with fail
   go_meet
   exact⟨S,rfl,by omega,B1,K1,E⟩
  ·have o1:((op:Int) != 0)=true:=by simp[o0]
   have E:Hid (bl (S++(⟨#[32,40]⟩++yz op++⟨#[32]⟩++ver++⟨#[41]⟩))=bl S++uT op (bl ver)):=by
    show _=_;simp only[cj];unfold uT;rw[if_neg o0,Jk op (by omega)];rfl
   have hz:Hid ((S++(⟨#[32,40]⟩++yz op++⟨#[32]⟩++ver++⟨#[41]⟩)).size≤200):=by
    show _≤_;rw[←ag,E.out,List.length_append,ag];have:=zB op (bl ver);rw[ag] at this;omega
   have o2:(op:Int)<6:=by omega
   have o3:(0:Int)≤(op:Int):=by omega
   clear o0
   go_wp2_with fail
   go_quiet (fail)
   go_wp2_with fail
   go_meet
   exact⟨_,rfl,hz.out,an B1.out _,K1.out.drewN _,E⟩
 case rest=>
 obtain⟨S2,rfl,hS2,B2,K2,E2⟩:=hcut
 clear K1 B1 c0 c1 c2 c3 c4 hsg hsz
 have c4:=K2.out.five.c4
 by_cases a0:al=0
 ·have E:Hid (bl S2=bl nm++mF (bl qual)++uT op (bl ver)++sW (archs.map bl)):=by
   have hl:=HAL.out
   rw[a0] at hl
   show _=_;rw[E2.out,ES.out,List.length_eq_zero_iff.1 hl];simp[sW]
  have a1:decide ((0:Int)<(al:Int))=false:=dF (by omega)
  have a2:decide (0<al)=false:=dF (by omega)
  clear a0
  go_wp2_with fail
  go_ret
  exact⟨by rw[←vD E.out];rfl,B2.out⟩
 ·have a1:decide ((0:Int)<(al:Int))=true:=dT (by omega)
  have a2:decide (0<al)=true:=dT (by omega)
  obtain⟨J,hJ⟩:∃ J,bC (Lib.join (archs.map bl) (bl ⟨#[32]⟩))=J:=⟨_,rfl⟩
  have hJz:J.size≤34000000:=by rw[←hJ,bS];exact JL.out
  have E:Hid (bl (S2++(⟨#[32,91]⟩++J++⟨#[93]⟩))=bl nm++mF (bl qual)++uT op (bl ver)++sW (archs.map bl)):=by
   have hl:=HAL.out
   show _=_
   simp only[cj]
   rw[E2.out,ES.out,←hJ,eh];unfold sW
   rw[if_neg (by rw[List.isEmpty_iff,List.map_eq_nil_iff];intro e;rw[e] at hl;simp at hl;omega)];rfl
  have HJ2:=ae (HJ.out _ B2.out)
  rw[hJ] at HJ2
  clear a0 hJ
  go_wp2_with fail
  refine HJ2.out.mono ?_;rintro e w2 ⟨rfl,hb2⟩
  have B3:Hid (Below w.heap.size w w2):=aq B2.out hb2
  clear hb2
  go_wp2_with fail
  go_ret
  exact⟨by rw[←vD E.out];rfl,B3.out⟩
def oz (g:List du):LU:=Lib.join (g.map du.text) [32,124,32]
theorem LI {t:cA}(h:t.okT):t.pl.text.length≤35000000:=by
 rw[sX]
 have h1:=zB t.op (bl t.ver)
 have h2:=Gd (t.archs.map bl) (fun x hx=>by obtain⟨y,hy,rfl⟩:=List.mem_map.1 hx;rw[ag];exact h.archz y hy) (by simpa using h.few)
 have h3:(mF (bl t.qual)).length≤33:=by have:=h.qualz;rw[←ag] at this;unfold mF;split<;>simp;omega
 have h4:=h.nmz;have h5:=h.verz
 rw[←ag] at h4 h5
 simp only[List.length_append,cA.pl];omega
theorem sY (A:OA)(c:Nat)(gs:List bj)(hW:xA gs)(w:World)(hG:Gl w)(hr:ov w A gs)(hcp:Cn gs):
  Calls Tryz.prog 112 #[.slice A gs.length c] w fun e w'=>e=.returned (.tuple #[.string (bC (vI (gs.map bj.pl))),.int .i64 0])∧Below w.heap.size w w':=by
 obtain⟨i0,hi0,hz0,hz1,hz2⟩:=info_parts jD
 have HG:=ae hG;have HR:=ae hr;have HW:=ae hW;have HCP:=ae hcp
 have hfew:=hW.few
 have GL:Hid (∀ g∈gs,(oz g.pl).length≤3000000000):=by
  intro g hg
  have h1:=lS [32,124,32] 35000000 (g.pl.map du.text) (fun x hx=>by
   obtain⟨y,hy,rfl⟩:=List.mem_map.1 hx
   obtain⟨t,ht,rfl⟩:=List.mem_map.1 hy
   exact LI (hW.ok g hg t ht))
  have h2:=hW.len g hg
  unfold oz bj.pl at *
  simp only[List.length_map,List.length_cons,List.length_nil] at h1 ⊢
  have:g.ts.length*(35000000+(0+1+1+1))≤64*35000003:=Nat.mul_le_mul h2 (by omega)
  omega
 clear hG hr hW hcp
 go_enter Tryz.func112,Tryz.ntmps112
 go_wp2_with fail
 refine(Ct A c gs HW.out w HG.out HR.out).mono ?_;rintro e w0 ⟨rfl,hb0⟩
 have HB0:=ae hb0;clear hb0
 go_wp2_with fail
 go_loopw [5,18] (fun l i wr=>∃ (k:Nat) (xs:List BA) (B:OA) (cc:Nat),k≤gs.length∧l=.slice B k cc∧i=.int .i64 k∧Hid (mY w0 wr xs B k cc)∧Hid (xs.map bl=(gs.take k).map (fun g=>oz g.pl))) (fun _ i _=>gs.length-(intOf i).toNat)
 case atStart=>exact⟨0,[],none,0,z0,rfl,rfl,mY.nil w0,rfl⟩
 case round=>
  obtain⟨k,xs,B,cc,hk,rfl,rfl,HS,HT⟩:=hrel
  by_cases hlt:k<gs.length
  ·obtain⟨g,hg⟩:∃ g,gs[k]?=some g:=⟨_,gG hlt⟩
   have HRW:=ae (HR.out.below (aq HB0.out HS.out.bel))
   obtain⟨b,off,hA,he⟩:=HRW.out.row.one k _ (xz hg) hlt
   have hix:=fun W=>aI (T:=173) (E:=218) (sz:=1) (c:=c) Tryz.underlying173 rfl Tryz.sizeOf218 hA hlt W
   simp only[Nat.mul_one] at hix
   have hmem:=gM hg
   have hgl:=HW.out.len g hmem
   have HRG:=ae (HRW.out.grp g hmem)
   have HRA:=ae (HRW.out.archs g hmem)
   have HTK:=ae (HW.out.ok g hmem)
   have HTC:=ae (HCP.out g hmem)
   have TK:Hid ((gs.take (k+1)).map (fun g=>oz g.pl)=(gs.take k).map (fun g=>oz g.pl)++[oz g.pl]):=by
    show _=_;obtain⟨hk',hf'⟩:=gS hg;rw[tS hk',hf'];simp
   have HGG:=ae (GL.out g hmem)
   obtain⟨gl,hgle⟩:∃ gl,g.ts.length=gl:=⟨_,rfl⟩
   rw[hgle] at he hgl
   have HGL:=ae hgle
   clear hg hA hgle HRW hmem
   go_wp2_with fail
   clear he hix
   obtain⟨wo,rfl⟩:∃ wo:World,wo=wr:=⟨_,rfl⟩
   go_loopw [8,24] (fun l q wr=>∃ (j:Nat) (ys:List BA) (C:OA) (dc:Nat),j≤gl∧l=.slice C j dc∧q=.int .i64 j∧Hid (mY wo wr ys C j dc)∧Hid (ys.map bl=(g.ts.take j).map (fun t=>t.pl.text))) (fun _ q _=>gl-(intOf q).toNat)
   case atStart=>exact⟨0,[],none,0,z0,rfl,rfl,mY.nil wo,rfl⟩
   case round=>
    obtain⟨j,ys,C,dc,hj,rfl,rfl,HI,HY⟩:=hrel
    by_cases hlt4:j<gl
    ·have HL4:Hid (j<g.ts.length):=by have:=HGL.out;show _<_;omega
     obtain⟨t,ht⟩:∃ t,g.ts[j]?=some t:=⟨_,gG HL4.out⟩
     obtain⟨b2,off2,hA2,he2⟩:=(HRG.out.below HI.out.bel).elem DW j t ht
     have e0:=he2 0 _ rfl
     have e1:=he2 1 _ rfl
     have e2:=he2 2 _ rfl
     have e3:=he2 3 _ rfl
     have e4:=he2 4 _ rfl
     simp only[Nat.add_zero] at e0
     have hix2:=fun W=>aI (T:=218) (E:=220) (sz:=5) (n:=gl) (c:=g.gc) Tryz.underlying218 rfl Tryz.sizeOf220 hA2 hlt4 W
     have TTK:=ae (HTK.out t (gM ht))
     have TTA:=ae (HRA.out t (gM ht))
     have TTC:=ae (HTC.out t (gM ht))
     have TY:Hid ((g.ts.take (j+1)).map (fun t=>t.pl.text)=(g.ts.take j).map (fun t=>t.pl.text)++[t.pl.text]):=by
      show _=_;obtain⟨hk',hf'⟩:=gS ht;rw[tS hk',hf'];simp
     have BA:Hid (Below wo.heap.size wo (wr.alloc (.cells #[.string t.nm,.int .i64 t.op,.string t.ver,.string t.qual,.slice t.aa t.archs.length t.ac] 220))):=HI.out.bel.alloc HI.out.bel.size _
     have BW:Hid (Below w.heap.size w wo):=aq HB0.out HS.out.bel
     clear ht he2 hA2
     go_wp2_with fail
     refine(Ge t TTK.out _ (HG.out.below (aq BW.out BA.out)) (TTA.out.below BA.out) TTC.out).mono ?_;rintro e w2 ⟨rfl,hb2⟩
     obtain⟨X,hX⟩:∃ X,bC t.pl.text=X:=⟨_,rfl⟩
     rw[hX]
     have HX:Hid (bl X=t.pl.text):=by show _=_;rw[←hX,eh]
     have S2:=ae ((HI.out.below (bR.alloc lr (.cells #[.string t.nm,.int .i64 t.op,.string t.ver,.string t.qual,.slice t.aa t.archs.length t.ac] 220))).below hb2)
     clear hb2 e0 e1 e2 e3 e4 hix2 hX
     go_wp2_with (at_builtin;refine aD _ rfl _ _ _ rfl wo.heap.size 9 i0 _ 1 16 Tryz.underlying26 hi0 hz0 hz1 hz2 rfl (by omega) (.slice C j dc) j _ rfl (S2.out.row.alloc _) (w2.heap.size+1) (some ⟨w2.heap.size,0,none⟩) 1 1 [.string X] rfl (fv w2 _ _) (by simp[Value.oneCell']) (by simp only[maxLen];omega) (by omega) (by simp;have:=S2.out.bel.size;omega) ?_;intro v1 w3 o1 g1 a1)
     obtain⟨A1,c1,rfl⟩:=aP o1
     have R1:=ae (S2.out.grow (x:=X) o1 g1)
     clear o1 g1 a1
     go_wp2_with fail
     go_roundw
     case rel=>exact⟨j+1,ys++[X],A1,c1,by omega,rfl,by go_num,R1,by show _=_;rw[TY.out,List.map_append,HY.out];simp[HX.out]⟩
     case measure=>simp[intOf];omega
    ·have EY:Hid (ys.map bl=g.pl.map du.text):=by
      show _=_;rw[HY.out,tL (by rw[HGL.out];omega)];unfold bj.pl;simp
     have hln:=HI.out.len
     have hcap:=ll HI.out.row
     obtain⟨X,hX⟩:∃ X,bC (Lib.join (ys.map bl) (bl ⟨#[32,124,32]⟩))=X:=⟨_,rfl⟩
     have HX:Hid (bl X=oz g.pl):=by show _=_;rw[←hX,eh,EY.out];rfl
     have HJ:=ae (fun (_:Unit)=>ox C dc ys ⟨#[32,124,32]⟩ wr (by rw[hln];exact cH HI.out.row) (by omega) (by omega) (by rw[EY.out];have:=HGG.out;unfold oz at this;rw[show bl ⟨#[32,124,32]⟩=[32,124,32] from rfl];omega))
     rw[hln,hX] at HJ
     have SO:=ae (HS.out.below HI.out.bel)
     clear hcap hln hX
     go_wp2_with fail
     refine(HJ.out ()).mono ?_;rintro e w2 ⟨rfl,hb2⟩
     have S2:=ae (SO.out.below hb2)
     clear hb2
     go_wp2_with (at_builtin;refine aD _ rfl _ _ _ rfl w0.heap.size 9 i0 _ 1 16 Tryz.underlying26 hi0 hz0 hz1 hz2 rfl (by omega) (.slice B k cc) k _ rfl (S2.out.row.alloc _) (w2.heap.size+1) (some ⟨w2.heap.size,0,none⟩) 1 1 [.string X] rfl (fv w2 _ _) (by simp[Value.oneCell']) (by simp only[maxLen];omega) (by omega) (by simp;have:=S2.out.bel.size;omega) ?_;intro v1 w3 o1 g1 a1)
     obtain⟨A1,c1,rfl⟩:=aP o1
     have R1:=ae (S2.out.grow (x:=X) o1 g1)
     clear o1 g1 a1
     go_wp2_with fail
     go_roundw
     case rel=>exact⟨k+1,xs++[X],A1,c1,by omega,rfl,by go_num,R1,by show _=_;rw[TK.out,List.map_append,HT.out];simp[HX.out]⟩
     case measure=>simp[intOf];omega
  ·have EX:Hid (xs.map bl=(gs.map bj.pl).map oz):=by
    show _=_;rw[HT.out,tL (by omega)];simp
   have hln:=HS.out.len
   have hcap:=ll HS.out.row
   have JL:Hid ((Lib.join (xs.map bl) (bl ⟨#[44,32]⟩)).length≤140737488355328):=by
    have h1:=lS (bl ⟨#[44,32]⟩) 3000000000 (xs.map bl) (fun y hy=>by
     rw[EX.out] at hy
     obtain⟨z,hz,rfl⟩:=List.mem_map.1 hy
     obtain⟨g,hg,rfl⟩:=List.mem_map.1 hz
     exact GL.out g hg)
    have h2:(bl ⟨#[44,32]⟩:LU).length=2:=rfl
    rw[h2,List.length_map,hln] at h1
    show _≤_;omega
   have HJ:=ae (fun (_:Unit)=>ox B cc xs ⟨#[44,32]⟩ wr (by rw[hln];exact cH HS.out.row) (by omega) (by omega) JL.out)
   rw[hln] at HJ
   clear hcap JL hln
   go_wp2_with fail
   refine(HJ.out ()).mono ?_;rintro e w2 ⟨rfl,hb2⟩
   have ET:Hid (bC (Lib.join (xs.map bl) (bl ⟨#[44,32]⟩))=bC (vI (gs.map bj.pl))):=by show _=_;rw[EX.out];rfl
   have B2:Hid (Below w.heap.size w w2):=aq (aq HB0.out HS.out.bel) hb2
   clear hb2
   go_wp2_with fail
   go_ret2
   exact⟨by rw[←ET.out];rfl,B2.out⟩
def sZ (s:BA)(ok:Bool)(w:World)(e:Ending)(w':World):Prop:=
 ∃ (out:BA) (b:Bool),e=.returned (.tuple #[.string out,.bool b])∧Below w.heap.size w w'∧(s.size≠0→(b=true∧out=s↔ok=true))
theorem uU {l:LU}(h:gt l=none):iU l=false:=by unfold iU;rw[h];simp
theorem uV {l:LU}{L:List (List du)}(h:gt l=some L)(h0:l≠[]):iU l=decide (vI L=l):=by
 unfold iU;rw[h];simp[h0]
theorem uW {l:LU}(h:gq l=none):iT l=false:=by unfold iT;rw[h];simp
theorem uX {l:LU}{L:List fF}(h:gq l=some L)(h0:l≠[]):iT l=decide (vE L=l):=by
 unfold iT;rw[h];simp[h0]
theorem po {l:LU}{s:BA}:bC l=s↔l=bl s:=by
 constructor
 ·intro h;rw[←h,eh]
 ·intro h;rw[h,mA]
theorem Jl {s:BA}(h:s.size≠0):bl s≠[]:=by intro e;apply h;rw[←ag,e];rfl
theorem xA.nil:xA []:=xA.of ko.nil
theorem ov.nil (w:World):ov w none []:=⟨Rd.nil _ _ _,by simp,by simp⟩
theorem td (s:BA)(w:World)(hG:Gl w)(hs:s.size≤1000000):
  Calls Tryz.prog 79 #[.int .i64 1,.string s] w (sZ s (iU (bl s)) w):=by
 have HG:=ae hG;clear hG
 have B0:Hid (Below w.heap.size w (w.alloc (.cells #[.string ⟨#[]⟩,.int .i64 0,.int .i64 0] 172))):=bR.alloc lr _
 have K0:Hid (ax (w.alloc (.cells #[.string ⟨#[]⟩,.int .i64 0,.int .i64 0] 172)) w.heap.size [.string ⟨#[]⟩,.int .i64 0,.int .i64 0]):=ax.new w _ _
 go_enter Tryz.func79,Tryz.ntmps79
 go_wp2_with fail
 refine(Cq s _ (HG.out.below B0.out) (by omega)).mono ?_;rintro e w1 ⟨A,n,c,f,a,code,rfl,hb1,hpost⟩
 have B1:=ae (aq B0.out hb1)
 have K1:=ae (K0.out.below hb1)
 have r0:=K1.out.cell 0 _ rfl
 have r1:=K1.out.cell 1 _ rfl
 have r2:=K1.out.cell 2 _ rfl
 have fr0:=K1.out.free 0 (by simp)
 have fr1:=K1.out.free 1 (by simp)
 have fr2:=K1.out.free 2 (by simp)
 have hlt1:w.heap.size<w1.heap.size:=K1.out.sz
 have hne1:¬ w.heap.size=w1.heap.size:=by omega
 have KS:=ae (((K1.out.set 0 (by simp) (.string f)).set 1 (by simp) (.int .i64 a)).set 2 (by simp) (.int .i64 code))
 have K3:=ae (KS.out.alloc (.cells #[.string f,.int .i64 a,.int .i64 code] 172))
 have BS:=ae (ak (j:=2) (ak (j:=1) (ak (j:=0) B1.out lr (.string f)) lr (.int .i64 a)) lr (.int .i64 code))
 have B3:=ae (BS.out.alloc BS.out.size (.cells #[.string f,.int .i64 a,.int .i64 code] 172))
 cases hp:gt (bl s) with
 | none=>
  rw[hp] at hpost
  obtain⟨hc,rfl,rfl⟩:=hpost
  have EN:=ae (uU hp)
  have hc1:(code==0)=false:=by simp[hc]
  clear hp hc hb1
  unfold ec
  go_wp2_with fail
  refine(sY none c [] xA.nil _ (HG.out.below B3.out) (ov.nil _) (fun _ h=>by simp at h)).mono ?_;rintro e w4 ⟨rfl,hb4⟩
  have d2:=(K3.out.below hb4).cell 2 _ rfl
  have B4:=ae (aq B3.out hb4)
  clear hb4
  go_wp2_with fail
  go_ret2
  exact⟨_,false,rfl,B4.out,fun _=>by rw[EN.out];simp⟩
 | some L=>
  rw[hp] at hpost
  obtain⟨rfl,gs,hgs,hok⟩:=hpost
  have hgood:=Cr hp (by rw[ag];exact hs)
  rw[←hgs] at hgood
  have HW:=ae (xA.of hgood)
  have EN:Hid (s.size≠0→(bC (vI (gs.map bj.pl))=s↔iU (bl s)=true)):=fun h0=>by rw[uV hp (Jl h0),hgs,decide_eq_true_iff];exact po
  have hlo:w.heap.size<(w.alloc (.cells #[.string ⟨#[]⟩,.int .i64 0,.int .i64 0] 172)).heap.size:=by simp
  have HOK:=ae ((((hok.kept hlo (aN (j:=0) (.string f))).kept hlo (aN (j:=1) (.int .i64 a))).kept hlo (aN (j:=2) (.int .i64 0))).below (bR.alloc lr (.cells #[.string f,.int .i64 a,.int .i64 0] 172)))
  obtain rfl:=hok.len
  have hP:=sY A c gs HW.out _ (HG.out.below B3.out) HOK.out.ok HOK.out.cap
  obtain⟨X,hX⟩:∃ X,bC (vI (gs.map bj.pl))=X:=⟨_,rfl⟩
  rw[hX] at hP EN
  clear hp hgs hok hgood hb1 hX hlo
  unfold ec
  go_wp2_with fail
  refine hP.mono ?_;rintro e w4 ⟨rfl,hb4⟩
  have d2:=(K3.out.below hb4).cell 2 _ rfl
  have B4:=ae (aq B3.out hb4)
  clear hb4 hP
  go_wp2_with fail
  go_ret2
  exact⟨X,true,rfl,B4.out,fun h=>by have:=EN.out h;simpa using this⟩
theorem th (fmt:Int)(h1:fmt≠1)(h2:fmt≠2)(s:BA)(w:World)(hG:BV w)(hs:s.size≤1000000):
  Calls Tryz.prog 79 #[.int .i64 fmt,.string s] w (sZ s (iT (bl s)) w):=by
 have HG:=ae hG;clear hG
 have q1:(fmt==1)=false:=by simp[h1]
 have q2:(fmt==2)=false:=by simp[h2]
 clear h1 h2
 have B0:Hid (Below w.heap.size w (w.alloc (.cells #[.string ⟨#[]⟩,.int .i64 0,.int .i64 0] 172))):=bR.alloc lr _
 have K0:Hid (ax (w.alloc (.cells #[.string ⟨#[]⟩,.int .i64 0,.int .i64 0] 172)) w.heap.size [.string ⟨#[]⟩,.int .i64 0,.int .i64 0]):=ax.new w _ _
 go_enter Tryz.func79,Tryz.ntmps79
 go_wp2_with fail
 refine(Cf s _ (HG.out.below B0.out) (by omega)).mono ?_;rintro e w1 ⟨A,n,c,f,a,code,rfl,hb1,hpost⟩
 have B1:=ae (aq B0.out hb1)
 have K1:=ae (K0.out.below hb1)
 have r0:=K1.out.cell 0 _ rfl
 have r1:=K1.out.cell 1 _ rfl
 have r2:=K1.out.cell 2 _ rfl
 have fr0:=K1.out.free 0 (by simp)
 have fr1:=K1.out.free 1 (by simp)
 have fr2:=K1.out.free 2 (by simp)
 have hlt1:w.heap.size<w1.heap.size:=K1.out.sz
 have hne1:¬ w.heap.size=w1.heap.size:=by omega
 have KS:=ae (((K1.out.set 0 (by simp) (.string f)).set 1 (by simp) (.int .i64 a)).set 2 (by simp) (.int .i64 code))
 have K3:=ae (KS.out.alloc (.cells #[.string f,.int .i64 a,.int .i64 code] 172))
 have BS:=ae (ak (j:=2) (ak (j:=1) (ak (j:=0) B1.out lr (.string f)) lr (.int .i64 a)) lr (.int .i64 code))
 have B3:=ae (BS.out.alloc BS.out.size (.cells #[.string f,.int .i64 a,.int .i64 code] 172))
 cases hp:gq (bl s) with
 | none=>
  rw[hp] at hpost
  obtain⟨hc,rfl,rfl⟩:=hpost
  have EN:=ae (uW hp)
  have hc1:(code==0)=false:=by simp[hc]
  clear hp hc hb1
  unfold ec
  go_wp2_with fail
  refine(sS none c [] (by simp) (by simp) _ (HG.out.1.below B3.out) (Rd.nil _ _ _)).mono ?_;rintro e w4 ⟨rfl,hb4⟩
  have d2:=(K3.out.below hb4).cell 2 _ rfl
  have B4:=ae (aq B3.out hb4)
  clear hb4
  go_wp2_with fail
  go_ret2
  exact⟨_,false,rfl,B4.out,fun _=>by rw[EN.out];simp⟩
 | some L=>
  rw[hp] at hpost
  obtain⟨rfl,rfl,hok⟩:=hpost
  obtain⟨hright,hl64⟩:=pZ _ _ _ _ (by omega) hp
  have EN:Hid (s.size≠0→(bC (vE L)=s↔iT (bl s)=true)):=fun h0=>by rw[uX hp (Jl h0),decide_eq_true_iff];exact po
  have hlo:w.heap.size<(w.alloc (.cells #[.string ⟨#[]⟩,.int .i64 0,.int .i64 0] 172)).heap.size:=by simp
  have HOK:=ae (cR (bN (bN (bN hok hlo (aN (j:=0) (.string f))) hlo (aN (j:=1) (.int .i64 a))) hlo (aN (j:=2) (.int .i64 0))) (bR.alloc lr (.cells #[.string f,.int .i64 a,.int .i64 0] 172)))
  have hP:=sS A c L hright (by omega) _ (HG.out.1.below B3.out) (cH HOK.out)
  obtain⟨X,hX⟩:∃ X,bC (vE L)=X:=⟨_,rfl⟩
  rw[hX] at hP EN
  clear hp hok hright hb1 hX hlo
  unfold ec
  go_wp2_with fail
  refine hP.mono ?_;rintro e w4 ⟨rfl,hb4⟩
  have d2:=(K3.out.below hb4).cell 2 _ rfl
  have B4:=ae (aq B3.out hb4)
  clear hb4 hP
  go_wp2_with fail
  go_ret2
  exact⟨X,true,rfl,B4.out,fun h=>by have:=EN.out h;simpa using this⟩
def vW (fmt:Int)(bars:Bool):Nat:=if fmt=2 then 64 else if fmt=3∧bars=true then 0 else 1
def eH (fmt:Int)(bars:Bool)(f:LU→Bool)(l:List BA):Bool:=decide (l.length≤vW fmt bars)&&l.all (fun x=>f (bl x))
theorem Jm (fmt:Int)(bars:Bool):vW fmt bars≤64:=by          unfold vW;repeat' split
                                                            all_goals omega
theorem Jn {f:LU→Bool}{l:List BA}{k:Nat}{x:BA}(h:l[k]?=some x)(h0:(l.take k).all (fun x=>f (bl x))=true)(hx:f (bl x)=true):(l.take (k+1)).all (fun x=>f (bl x))=true:=by
 obtain⟨hi,he⟩:=gS h
 rw[tS hi,he,List.all_append,h0];simp[hx]
theorem Jo {f:LU→Bool}{l:List BA}{k:Nat}{x:BA}(h:l[k]?=some x)(hx:f (bl x)=false):l.all (fun x=>f (bl x))=false:=by
 cases ha:l.all (fun x=>f (bl x)) with
 | false=>rfl
 | true=>
  rw[List.all_eq_true] at ha
  have:=ha x (gM h)
  rw[hx] at this;cases this
theorem jR (fmt:Int)(bars:Bool)(f:LU→Bool)(hf:f []=false)(A:OA)(c:Nat)(l:List BA)(w:World)(hG:BV w)(hr:Rd w 1 A l.length (az l))(hn:l.length≤4294967280)
  (hC:∀ x∈l,∀ W,BV W→Calls Tryz.prog 79 #[.int .i64 fmt,.string x] W (sZ x (f (bl x)) W)):
  Calls Tryz.prog 56 #[.int .i64 fmt,.slice A l.length c,.bool bars] w fun e w'=>e=.returned (.bool (eH fmt bars f l))∧Below w.heap.size w w':=by
 have HG:=ae hG;have HR:=ae hr;have HC:=ae hC;have HF:=ae hf
 clear hG hr hC hf
 obtain⟨b2,hb2⟩:∃ b2,(fmt==2)=b2:=⟨_,rfl⟩
 obtain⟨b3,hb3⟩:∃ b3,(fmt==3)=b3:=⟨_,rfl⟩
 have HM:Hid (vW fmt bars=if b2 then 64 else if b3&&bars then 0 else 1):=by
  show _=_;unfold vW;rw[←hb2,←hb3];simp
 have hm64:=Jm fmt bars
 obtain⟨m,hm⟩:∃ m,vW fmt bars=m:=⟨_,rfl⟩
 rw[hm] at hm64 HM
 have HMM:=ae hm
 clear hm
 go_enter Tryz.func56,Tryz.ntmps56
 go_upto_block 0 with(fail)
 go_cut [7] (fun v wx=>v=.int .i64 m∧w=wx)
 case first=>
  cases b2 with
  | true=>
   have E:Hid (m=64):=HM.out
   go_wp2_with fail
   go_meet
   exact⟨by rw[E.out];rfl,rfl⟩
  | false=>
   cases b3 with
   | true=>
    cases bars with
    | true=>
     have E:Hid (m=0):=HM.out
     go_wp2_with fail
     go_meet
     exact⟨by rw[E.out];rfl,rfl⟩
    | false=>
     have E:Hid (m=1):=HM.out
     go_wp2_with fail
     go_meet
     exact⟨by rw[E.out];rfl,rfl⟩
   | false=>
    have E:Hid (m=1):=HM.out
    go_wp2_with fail
    go_meet
    exact⟨by rw[E.out];rfl,rfl⟩
 case rest=>
 obtain⟨rfl,rfl⟩:=hcut
 clear hb2 hb3 HM
 by_cases hlm:m<l.length
 ·have E:Hid (eH fmt bars f l=false):=by show _=_;unfold eH;rw[HMM.out,dF];rfl
  have d1:decide ((m:Int)<(l.length:Int))=true:=dT (by omega)
  have d2:decide (m<l.length)=true:=dT hlm
  go_wp2_with fail
  go_ret
  exact⟨af E.out.symm,bR⟩
 ·have E0:Hid (eH fmt bars f l=l.all (fun x=>f (bl x))):=by show _=_;unfold eH;rw[HMM.out,dT];rfl
  have d1:decide ((m:Int)<(l.length:Int))=false:=dF (by omega)
  have d2:decide (m<l.length)=false:=dF hlm
  go_wp2_with fail
  clear d1 d2
  go_loopw [6,27] (fun s6 i wr=>∃ k:Nat,s6=.bool false∧i=.int .i64 k∧k≤l.length∧Hid (Below w.heap.size w wr)∧Hid ((l.take k).all (fun x=>f (bl x))=true)) (fun _ i _=>l.length-(intOf i).toNat)
  case atStart=>exact⟨0,rfl,rfl,z0,bR,rfl⟩
  case round=>
   obtain⟨k,rfl,rfl,hk,HB,HA0⟩:=hrel
   by_cases hlt:k<l.length
   ·obtain⟨x,hx⟩:∃ x,l[k]?=some x:=⟨_,gG hlt⟩
    obtain⟨b,off,hA,he⟩:=(HR.out.below HB.out).str k x hx
    have hix:=fun W=>aI (T:=26) (E:=9) (sz:=1) (c:=c) Tryz.underlying26 rfl Tryz.sizeOf9 hA hlt W
    simp only[Nat.mul_one] at hix
    have hW:=HC.out x (gM hx)
    have NY:Hid (f (bl x)=true→(l.take (k+1)).all (fun x=>f (bl x))=true):=fun h=>Jn hx HA0.out h
    have NN:Hid (f (bl x)=false→eH fmt bars f l=false):=fun h=>by rw[E0.out];exact Jo hx h
    clear hx hA
    go_wp2_with fail
    refine(hW _ (HG.out.below HB.out)).mono ?_;rintro e w2 ⟨out,ok,rfl,hb2,hiff⟩
    have B2:=ae (aq HB.out hb2)
    clear hb2
    by_cases x0:x.size=0
    ·have he1:x.toList=[]:=by rw[ah,bG x x0]
     have he2:x.toList.isEmpty=true:=by rw[he1];rfl
     have E:Hid (eH fmt bars f l=false):=NN.out (by rw[bG x x0];exact HF.out)
     clear hiff
     go_wp2_with fail
     go_ret
     exact⟨af E.out.symm,B2.out⟩
    have he2:x.toList.isEmpty=false:=by rw[ah,aT];exact dF x0
    have he1:¬ x.toList=[]:=by intro h;rw[h] at he2;simp at he2
    have hif:=hiff x0
    cases ok with
    | false=>
     have E:Hid (eH fmt bars f l=false):=NN.out (by cases hv:f (bl x) with
      | false=>rfl
      | true=>have:=hif.2 hv;cases this.1)
     clear hiff hif
     go_wp2_with fail
     go_ret
     exact⟨af E.out.symm,B2.out⟩
    | true=>
     by_cases ho:out=x
     ·have HN:=ae (NY.out (hif.1 ⟨rfl,ho⟩))
      subst ho
      clear hiff hif
      go_wp2_with fail
      go_roundw
      case rel=>exact⟨k+1,rfl,by go_num,by omega,B2,HN⟩
      case measure=>simp[intOf];omega
     ·have E:Hid (eH fmt bars f l=false):=NN.out (by cases hv:f (bl x) with
       | false=>rfl
       | true=>exact absurd (hif.2 hv).2 ho)
      have hne:(out.toList != x.toList)=true:=by rw[bne,dx,dF ho];rfl
      have hne2:(out.toList==x.toList)=false:=by rw[dx,dF ho]
      clear hiff hif ho
      go_wp2_with fail
      go_ret
      exact⟨af E.out.symm,B2.out⟩
   ·have E:Hid (eH fmt bars f l=true):=by show _=_;rw[E0.out];have:=HA0.out;rw[tL (by omega)] at this;exact this
    go_wp2_with fail
    go_ret
    exact⟨af E.out.symm,HB.out⟩
end
end Go.Proofs.YtaohgmcbpafdeaaGreatDoor
