/- A part of the proof that ModelChecks holds. No condition. -/
import Derived.Test.YtdfdllbebfoggaaGreatDoorD34
set_option maxRecDepth 100000
set_option maxHeartbeats 20000000
set_option linter.unusedVariables false
set_option linter.unusedSimpArgs false
namespace Go.Proofs.YtdfdllbebfoggaaGreatDoor
section
open Go.RowKit Go.Deep
structure FSt (w wr:World) (a:Nat) (s:BA) (k n:Nat) (c:Int) (gs:List GrpM) (A:Option Addr) (m cc:Nat):Prop where
 len:gs.length=m
 row:wr.ownsRow w.heap.size 155 1 (.slice A m cc) m (gs.map GrpM.sl)
 grp:∀ g∈gs,g.own wr w.heap.size
 dr:DR wr a s k n c
 gr:w.grownBy wr (some a)
 lt:a<w.heap.size
theorem FSt.step {w wr w':World}{a:Nat}{s:BA}{k k' n n':Nat}{c c':Int}{gs:List GrpM}{A:Option Addr}{m cc:Nat}(h:FSt w wr a s k n c gs A m cc)(hg:wr.grownBy w' (some a))(hd:DR w' a s k' n' c'):FSt w w' a s k' n' c' gs A m cc:=
 ⟨h.len,owns_kept h.row h.lt hg,fun t ht=>(h.grp t ht).kept h.lt hg,hd,grown_thru h.gr hg,h.lt⟩
theorem FSt.below {w wr w':World}{a:Nat}{s:BA}{k n:Nat}{c:Int}{gs:List GrpM}{A:Option Addr}{m cc:Nat}(h:FSt w wr a s k n c gs A m cc)(hb:Below wr.heap.size wr w'):FSt w w' a s k n c gs A m cc:=
 h.step (below_grows hb _) (h.dr.below hb)
theorem FSt.alloc {w wr:World}{a:Nat}{s:BA}{k n:Nat}{c:Int}{gs:List GrpM}{A:Option Addr}{m cc:Nat}(h:FSt w wr a s k n c gs A m cc)(o:Obj):FSt w (wr.alloc o) a s k n c gs A m cc:=h.below (bR.alloc lr o)
theorem FSt.drewN {w wr:World}{a:Nat}{s:BA}{k n:Nat}{c:Int}{gs:List GrpM}{A:Option Addr}{m cc:Nat}(h:FSt w wr a s k n c gs A m cc)(j:Nat):FSt w (wr.drewN j) a s k n c gs A m cc:=h.below ⟨rfl,rfl,rfl,lr,fun _ _=>rfl⟩
theorem GrpM.own.other {G:GrpM}{w w2:World}{lo lo':Nat}{z n:Nat}{v:Value}{xs:List Value}(h:G.own w lo)(h2:w.ownsRow lo' 155 z v n xs)(hg:w.grownBy w2 v.ownBlock):G.own w2 lo:=
 ⟨kept_other h.row h2 (by decide) hg,fun t ht=>kept_other (h.archs t ht) h2 (by decide) hg⟩
theorem FSt.grow {w wr w2:World}{a:Nat}{s:BA}{k n:Nat}{c:Int}{gs:List GrpM}{A A1:Option Addr}{m cc c1:Nat}{o:Obj}{G:GrpM}(h:FSt w wr a s k n c gs A m cc)(hG:G.own wr w.heap.size)
  (hr:w2.ownsRow w.heap.size 155 1 (.slice A1 (m+1) c1) (m+1) (gs.map GrpM.sl++[G.sl]))
  (hg:(wr.alloc o).grownBy w2 (Value.slice A m cc).ownBlock):FSt w w2 a s k n c (gs++[G]) A1 (m+1) c1:=by
 have ho:=h.alloc o
 have hG':G.own (wr.alloc o) w.heap.size:=hG.below (bR.alloc lr o)
 refine⟨by simp[h.len],by rw[List.map_append];simpa using hr,fun t ht=>?_,ho.dr.kept hg ?_,grown_new ho.gr hg (fun j hj=>(h.row.lt j hj).1),h.lt⟩
 ·rcases List.mem_append.1 ht with ht | ht
  ·exact(ho.grp t ht).other ho.row hg
  ·obtain rfl:=List.mem_singleton.1 ht
   exact hG'.other ho.row hg
 ·intro e;have:=(h.row.lt a e.symm).1;have:=h.lt;omega
def sumL (L:List (List Trm)):Nat:=(L.map List.length).sum
theorem sumL_snoc (L:List (List Trm))(g:List Trm):sumL (L++[g])=sumL L+g.length:=by simp[sumL]
theorem dAll_iff (L:List (List Trm)):dAll L=true↔L.all (fun g=>g.all Trm.right)=true∧sumL L≤64:=by unfold dAll sumL;simp
def FieldPost (r:Option (List (List Trm)))(a:Nat)(s:BA)(w:World)(e:Ending)(w':World):Prop:=
 match r with
  | none=>w.grownBy w' (some a)∧e=.returned (.tuple #[.slice none 0 0,.bool false])∧∃ (p' n':Nat) (c':Int),DR w' a s p' n' c'
  | some L=>∃ (A:Option Addr) (m cc:Nat) (gs:List GrpM) (p' n':Nat) (c':Int),e=.returned (.tuple #[.slice A m cc,.bool true])∧FSt w w' a s p' n' c' gs A m cc∧gs.map GrpM.pl=L∧(c'=0↔dAll L=true)
theorem FieldPost.no {r:Option (List (List Trm))}{a:Nat}{s:BA}{p' n':Nat}{c':Int}{w w':World}(hr:r=none)(hg:w.grownBy w' (some a))(h:DR w' a s p' n' c'):FieldPost r a s w (.returned (.tuple #[.slice none 0 0,.bool false])) w':=by
 subst hr;exact⟨hg,rfl,p',n',c',h⟩
theorem FieldPost.yes {r:Option (List (List Trm))}{a:Nat}{s:BA}{p' n':Nat}{c':Int}{w w':World}{gs:List GrpM}{A:Option Addr}{m cc:Nat}(hr:r=some (gs.map GrpM.pl))(h:FSt w w' a s p' n' c' gs A m cc)(hc:c'=0↔dAll (gs.map GrpM.pl)=true):FieldPost r a s w (.returned (.tuple #[.slice A m cc,.bool true])) w':=by
 subst hr;exact⟨A,m,cc,gs,p',n',c',rfl,h,rfl,hc⟩
theorem ddep_field (a:Nat)(s:BA)(w:World)(hs:s.size≤4294967280)(hG:GlA a w)(h:DR w a s 0 0 0):
  Calls Tryz.prog 123 #[.pointer (some ⟨a,0,none⟩)] w (FieldPost (dForm (bl s)) a s w):=by
 obtain⟨i0,hi0,hz0,hz1,hz2⟩:=info_parts info_grp
 have HG:=hid hG
 obtain⟨q,hq⟩:∃ q,0+runN blankB ((bl s).drop 0)=q:=⟨_,rfl⟩
 have hB:=ddep_blanks a s 0 0 0 w hs h
 rw[hq] at hB
 have SK:Hid (skipL (bl s)=(bl s).drop q):=by have:=skip_at s 0;rw[hq,List.drop_zero] at this;exact this
 have hlt:=h.sz
 generalize hRR:dForm (bl s)=RR
 clear hG h hq
 go_enter Tryz.func123,Tryz.ntmps123
 go_wp2_with fail
 refine hB.mono ?_;rintro e w1 ⟨rfl,hd,hg⟩
 have S1:Hid (FSt w w1 a s q 0 0 [] none 0 0):=⟨rfl,World.ownsRow_nil _ _ _ _,by simp,hd,hg,hlt⟩
 have hqs:=hd.le
 obtain⟨f1,y1,k1⟩:=hd.cells
 have c0:=k1.c0
 have c1:=k1.c1
 clear hd hg hB k1
 by_cases hqe:q=s.size
 ·have EN:Hid (RR=some (([]:List GrpM).map GrpM.pl)):=by
   show _=_;rw[←hRR];unfold dForm;rw[SK.out,drop_end s q (by omega)];rfl
  subst hqe
  clear hRR
  go_wp2_with fail
  go_quiet (fail)
  go_wp2_with fail
  go_ret2
  exact FieldPost.yes EN.out (S1.out.drewN _) (by simp[dAll])
 ·have hqlt:q<s.size:=by omega
  have E0:Hid (RR=dGroupsT (s.size+1) [] ((bl s).drop q)):=by
   show _=_;rw[←hRR];unfold dForm;rw[SK.out,←dGroupsT_start,bl_length,if_neg];rw[drop_cons s q hqlt];simp
  have hq1:((q:Int)==(s.size:Int))=false:=by simp;omega
  have HF0:Hid (s.size-q≤s.size):=by show _≤_;omega
  clear hRR SK
  go_wp2_with fail
  go_quiet (fail)
  clear c0 c1 hq1 hqe
  have S2:=hid (S1.out.drewN nq)
  clear S1
  go_wp2_with fail
  go_loopw [2,3,4] (fun s2 s3 l wr=>∃ (k m cc f n':Nat) (c':Int) (gs:List GrpM) (A:Option Addr),s2=.slice none 0 0∧s3=.bool false∧l=.slice A m cc∧k≤s.size∧m≤k∧Hid (FSt w wr a s k n' c' gs A m cc)∧Hid (RR=dGroupsT (f+1) (gs.map GrpM.pl) ((bl s).drop k))∧Hid (s.size-k≤f)∧Hid (n'=sumL (gs.map GrpM.pl))∧Hid (c'=0↔(gs.map GrpM.pl).all (fun g=>g.all Trm.right)=true∧n'≤64)) (fun _ _ _ wr=>s.size-atOf a wr)
  case atStart=>exact⟨q,0,0,s.size,0,0,[],none,rfl,rfl,rfl,hqs,z0,S2,E0,HF0,rfl,by show _↔_;simp⟩
  case round=>
   clear S2 E0 HF0
   obtain⟨k,m,cc,f,n',c',gs,A,rfl,rfl,rfl,hk,hmk,HS,HE,HF,HN,HC⟩:=hrel
   have HCN:Hid (c'=0→n'≤64):=by have:=HC.out;show _→_;intro h;exact(this.1 h).2
   have HFL:Hid (s.size-k<((bl s).drop k).length+1):=by show _<_;rw[List.length_drop,bl_length];omega
   go_wp2_with fail
   refine(ddep_group _ a s k n' c' wr hs HFL.out (HG.out.kept HS.out.gr) HS.out.dr HCN.out).mono ?_;rintro e w2 ⟨hg,hpost⟩
   cases ht:dGroup (((bl s).drop k).length+1) ((bl s).drop k) with
   | none=>
    rw[ht] at hpost
    obtain⟨rfl,p',m',d',hd⟩:=hpost
    have S2:=hid (HS.out.step hg hd);clear hd hg
    have EN:Hid (RR=none):=by show _=_;rw[HE.out];exact dGroupsT_none ht
    clear ht
    go_wp2_with fail
    go_ret2
    exact FieldPost.no EN.out S2.out.gr S2.out.dr
   | some x=>
    obtain⟨g,r⟩:=x
    rw[ht] at hpost
    obtain⟨G,p',d',rfl,hGp,hGo,hd,hpp,hdr,hcc⟩:=hpost
    have S2:=hid (HS.out.step hg hd)
    have HGO:=hid (hGo.base (lo':=w.heap.size) HS.out.gr.size)
    have hps':=hd.le
    have N2:Hid (n'+g.length=sumL ((gs++[G]).map GrpM.pl)):=by
     have:=HN.out;show _=_;rw[List.map_append,List.map_cons,List.map_nil,sumL_snoc,hGp];omega
    have C2:Hid (d'=0↔((gs++[G]).map GrpM.pl).all (fun g=>g.all Trm.right)=true∧n'+g.length≤64):=by
     have h1:=HC.out
     show _↔_
     rw[hcc,h1,List.map_append,List.all_append]
     simp only[List.map_cons,List.map_nil,List.all_cons,List.all_nil,Bool.and_true,Bool.and_eq_true,hGp]
     constructor
     ·rintro⟨⟨a1,a2⟩,a3,a4⟩;exact⟨⟨a1,a3⟩,a4⟩
     ·rintro⟨⟨a1,a3⟩,a4⟩;exact⟨⟨a1,by omega⟩,a3,a4⟩
    have HD:=hid hdr
    have HT:=hid hGp
    have HTM:=hid ht
    have hmm:m≤4294967280:=by omega
    have HKK:Hid (k<p'):=hpp
    generalize n'+g.length=n2 at S2 N2 C2 hd
    obtain⟨gl,hgl⟩:∃ gl,G.ts.length=gl:=⟨_,rfl⟩
    have GSL:Hid (G.sl=.slice G.ga gl G.gc):=by show _=_;unfold GrpM.sl;rw[hgl]
    rw[hgl]
    clear ht hGp hGo hd hg hdr hcc hpp hgl HCN HFL
    go_wp2_with (at_builtin;refine wpList_append_any _ rfl _ _ _ rfl w.heap.size 155 i0 _ 1 24 Tryz.underlying115 hi0 hz0 hz1 hz2 rfl (by omega) (.slice A m cc) m _ rfl (S2.out.row.alloc _) (w2.heap.size+1) (some ⟨w2.heap.size,0,none⟩) 1 1 [.slice G.ga gl G.gc] rfl (reads_str w2 _ _) (by simp[Value.oneCell']) (by simp only[maxLen];omega) (by omega) (by simp;have:=S2.out.gr.size;omega) ?_;intro v1 w3 o1 g1 a1)
    obtain⟨A3,c3,rfl⟩:=owns_form o1
    have S3:=hid (S2.out.grow (G:=G) HGO.out (by rw[GSL.out];exact o1) g1)
    clear o1 g1 a1
    obtain⟨f1,y1,k1⟩:=S3.out.dr.cells
    have c0:=k1.c0
    have c1:=k1.c1
    clear k1
    by_cases hpe:p'=s.size
    ·have EN:Hid (RR=some ((gs++[G]).map GrpM.pl)):=by
      show _=_
      rw[HE.out,dGroupsT_end (g:=g) (by rw[HTM.out,←HD.out,drop_end s p' (by omega)]),List.map_append];simp[HT.out]
     have CF:Hid (d'=0↔dAll ((gs++[G]).map GrpM.pl)=true):=by show _↔_;rw[C2.out,dAll_iff,N2.out]
     subst hpe
     go_wp2_with fail
     go_quiet (fail)
     go_wp2_with fail
     go_ret2
     exact FieldPost.yes EN.out (S3.out.drewN _) CF.out
    ·have hp1:((p':Int)==(s.size:Int))=false:=by simp;omega
     have RE:Hid (r.isEmpty=false):=by show _=_;rw[←HD.out,drop_cons s p' (by omega)];rfl
     clear hpe
     go_wp2_with fail
     go_quiet (fail)
     have S4:=hid (S3.out.drewN nq)
     clear c0 c1 hp1 S3
     cases hb:head0 44 ((bl s).drop p') with
     | false=>
      have HB:=hid hb
      have EN:Hid (RR=none):=by show _=_;rw[HE.out];exact dGroupsT_bad HTM.out RE.out (by rw[←HD.out];exact hb)
      clear hb
      go_wp2_with fail
      refine(ddep_sign_no 44 a s p' _ d' _ hs S4.out.dr HB).mono ?_;rintro e w4 ⟨rfl,hd,hg⟩
      have S5:=hid (S4.out.step hg hd);clear hd hg
      go_wp2_with fail
      go_ret2
      exact FieldPost.no EN.out S5.out.gr S5.out.dr
     | true=>
      have HB:=hid hb
      obtain⟨k2,hk2⟩:∃ k2,p'+1+runN blankB ((bl s).drop (p'+1))=k2:=⟨_,rfl⟩
      have EN:Hid (RR=dGroupsT (f-1+1) ((gs++[G]).map GrpM.pl) ((bl s).drop k2)):=by
       have hf:=HF.out;have h2:=HKK.out
       show _=_
       rw[HE.out,dGroupsT_more HTM.out (by rw[←HD.out];exact hb),←HD.out,List.drop_drop,skip_at,hk2,List.map_append,show f-1+1=f by omega];simp[HT.out]
      have HB2:=hid (fun (W:World) (hD:DR W a s (p'+1) n2 d')=>ddep_blanks a s (p'+1) n2 d' W hs hD)
      rw[hk2] at HB2
      have HK2:Hid (k<k2):=by have:=HKK.out;show _<_;omega
      have HF2:Hid (s.size-k2≤f-1):=by have:=HF.out;have:=HK2.out;show _≤_;omega
      have hmk2:m+1≤k2:=by have:=HK2.out;omega
      clear hb hk2
      go_wp2_with fail
      refine(ddep_sign_yes 44 a s p' _ d' _ hs S4.out.dr HB).mono ?_;rintro e w4 ⟨rfl,hd,hg⟩
      have S5:=hid (S4.out.step hg hd);clear hd hg
      go_wp2_with fail
      refine(HB2.out w4 S5.out.dr).mono ?_;rintro e w5 ⟨rfl,hd,hg⟩
      have S6:=hid (S5.out.step hg hd);clear hd hg
      have hk2s:=S6.out.dr.le
      go_wp2_with fail
      go_roundw
      case rel=>exact⟨k2,m+1,c3,f-1,n2,d',gs++[G],A3,rfl,rfl,rfl,hk2s,hmk2,S6,EN,HF2,N2,C2⟩
      case measure=>exact DR.dec S6.out.dr HS.out.dr HK2.out
def FldCap (gs:List GrpM):Prop:=∀ g∈gs,∀ t∈g.ts,t.archs.length≤t.ac
theorem fldCap_of {w:World}{lo:Nat}{gs:List GrpM}(hg:∀ g∈gs,g.own w lo):FldCap gs:=fun g hm t ht=>owns_cap ((hg g hm).archs t ht)
structure FldOwn (w:World) (lo:Nat) (A:Option Addr) (n c:Nat) (gs:List GrpM):Prop where
 len:gs.length=n
 row:w.ownsRow lo 155 1 (.slice A n c) n (gs.map GrpM.sl)
 grp:∀ g∈gs,g.own w lo
theorem FldOwn.ok {w:World}{lo:Nat}{A:Option Addr}{n c:Nat}{gs:List GrpM}(h:FldOwn w lo A n c gs):FldOk w A gs:=
 ⟨by rw[h.len];exact owns_rd h.row,fun g hm=>owns_rd (h.grp g hm).row,fun g hm t ht=>owns_rd ((h.grp g hm).archs t ht)⟩
theorem FldOwn.cap {w:World}{lo:Nat}{A:Option Addr}{n c:Nat}{gs:List GrpM}(h:FldOwn w lo A n c gs):FldCap gs:=fldCap_of h.grp
theorem FldOwn.kept {w w':World}{lo g:Nat}{A:Option Addr}{n c:Nat}{gs:List GrpM}(h:FldOwn w lo A n c gs)(hg:g<lo)(hw:w.grownBy w' (some g)):FldOwn w' lo A n c gs:=⟨h.len,owns_kept h.row hg hw,fun x hx=>(h.grp x hx).kept hg hw⟩
theorem FldOwn.below {w w':World}{lo:Nat}{A:Option Addr}{n c:Nat}{gs:List GrpM}(h:FldOwn w lo A n c gs)(hb:Below w.heap.size w w'):FldOwn w' lo A n c gs:=⟨h.len,owns_below h.row hb,fun x hx=>(h.grp x hx).below hb⟩
def DParsePost (r:Option (List (List Trm)))(w:World)(e:Ending)(w':World):Prop:=
 ∃ (A:Option Addr) (n c:Nat) (f:BA) (a code:Int),e=.returned (.tuple #[.slice A n c,fltV f a code])∧Below w.heap.size w w' ∧
  (match r with
   | some L=>code=0∧∃ gs:List GrpM,gs.map GrpM.pl=L∧FldOwn w' w.heap.size A n c gs
   | none=>code≠0∧A=none∧n=0)
theorem dParse_none {l:LU}(h:dForm l=none):dParse l=none:=by unfold dParse;rw[h]
theorem dParse_bad {l:LU}{L:List (List Trm)}(h:dForm l=some L)(h1:¬ dAll L=true):dParse l=none:=by unfold dParse;rw[h];simp[h1]
theorem dParse_good {l:LU}{L:List (List Trm)}(h:dForm l=some L)(h1:dAll L=true):dParse l=some L:=by unfold dParse;rw[h];simp[h1]
theorem ddep_Parse (s:BA)(w:World)(hG:Gl w)(hs:s.size≤4294967280):
  Calls Tryz.prog 86 #[.string s] w (DParsePost (dParse (bl s)) w):=by
 obtain⟨W1,hW1⟩:∃ W1,(w.alloc (.cells #[.string ⟨#[]⟩,.int .i64 0,.int .i64 0] 114)).alloc (.cells #[.string s,.int .i64 0,.int .i64 0,.string ⟨#[]⟩,.int .i64 0,.int .i64 0] 151)=W1:=⟨_,rfl⟩
 have B1:Hid (Below w.heap.size w W1):=by rw[←hW1];exact(bR.alloc lr _).alloc (by simp) _
 have K1:Hid (Blk W1 w.heap.size [.string ⟨#[]⟩,.int .i64 0,.int .i64 0]):=by rw[←hW1];exact(Blk.new w [.string ⟨#[]⟩,.int .i64 0,.int .i64 0] _).alloc _
 have D1:Hid (DR W1 (w.heap.size+1) s 0 0 0):=by
  refine⟨⟨⟨#[]⟩,0,?_⟩,z0,lr⟩
  have:=Blk.new (w.alloc (.cells #[.string ⟨#[]⟩,.int .i64 0,.int .i64 0] 114)) [.string s,.int .i64 0,.int .i64 0,.string ⟨#[]⟩,.int .i64 0,.int .i64 0] 151
  rw[←hW1];simpa using this
 have HG:Hid (GlA (w.heap.size+1) W1):=⟨w,hG,B1.out,Nat.le_succ _⟩
 have hz1:w.heap.size<W1.heap.size:=K1.out.sz
 clear hG
 go_enter Tryz.func86,Tryz.ntmps86
 go_wp2_with fail
 clear hW1
 refine(ddep_field (w.heap.size+1) s W1 hs HG.out D1.out).mono ?_;rintro e w2 hpost
 cases hf:dForm (bl s) with
 | none=>
  rw[hf] at hpost
  obtain⟨hg,rfl,p',n',c',hd⟩:=hpost
  have EN:=hid (dParse_none hf)
  have K2:=hid (K1.out.grownBy hg (by intro e;injection e with e;omega))
  have B2:=hid (below_grown B1.out hg (Nat.le_succ _))
  obtain⟨f,y,k⟩:=hd.cells
  have c1:=k.c1
  have r0:=K2.out.cell 0 _ rfl
  have r1:=K2.out.cell 1 _ rfl
  have r2:=K2.out.cell 2 _ rfl
  have fr0:=K2.out.free 0 (by simp)
  have fr1:=K2.out.free 1 (by simp)
  have fr2:=K2.out.free 2 (by simp)
  clear hf hg hd k
  go_wp2_with fail
  go_region
  go_wp2_with fail
  refine bodyPost_ret (v:=.tuple #[.slice none 0 0,.agg #[.string ⟨#[]⟩,.int .i64 p',.int .i64 3]]) (by simp[results,Tryz.results86,go_sem,r0,r1,r2]) rfl ?_
  refine⟨none,0,0,⟨#[]⟩,p',3,rfl,?_,by rw[EN.out];exact⟨by decide,rfl,rfl⟩⟩
  exact(below_set (below_set (below_set B2.out lr _) lr _) lr _).drew
 | some L=>
  rw[hf] at hpost
  obtain⟨A,m,cc,gs,p',n',c',rfl,hS,hL,hcc⟩:=hpost
  have HS:=hid hS
  have K2:=hid (K1.out.grownBy hS.gr (by intro e;injection e with e;omega))
  have B2:=hid (below_grown B1.out hS.gr (Nat.le_succ _))
  obtain⟨f,y,k⟩:=hS.dr.cells
  have c3:=k.c3
  have c4:=k.c4
  have c5:=k.c5
  have r0:=K2.out.cell 0 _ rfl
  have r1:=K2.out.cell 1 _ rfl
  have r2:=K2.out.cell 2 _ rfl
  have fr0:=K2.out.free 0 (by simp)
  have fr1:=K2.out.free 1 (by simp)
  have fr2:=K2.out.free 2 (by simp)
  by_cases hc:c'=0
  ·have EN:=hid (dParse_good hf (hcc.1 hc))
   have HL:=hid hL
   subst hc
   have hml:=hS.len
   have hlo:w.heap.size≤W1.heap.size:=Nat.le_of_lt hz1
   have F3:Hid (FldOwn (((w2.setCell ⟨w.heap.size,0,none⟩ (.string ⟨#[]⟩)).setCell ⟨w.heap.size,1,none⟩ (.int .i64 0)).setCell ⟨w.heap.size,2,none⟩ (.int .i64 0)) w.heap.size A m cc gs):=by
    refine⟨hml,?_,?_⟩
    ·exact owns_base (owns_kept (owns_kept (owns_kept hS.row hz1 (kept_set _)) hz1 (kept_set _)) hz1 (kept_set _)) hlo
    ·exact fun g hg=>((((hS.grp g hg).kept hz1 (kept_set _)).kept hz1 (kept_set _)).kept hz1 (kept_set _)).base hlo
   clear hf hL hcc k hS hml
   go_wp2_with fail
   refine bodyPost_ret (v:=.tuple #[.slice A m cc,.agg #[.string ⟨#[]⟩,.int .i64 0,.int .i64 0]]) (by simp[results,Tryz.results86,go_sem,r0,r1,r2]) rfl ?_
   refine⟨A,m,cc,⟨#[]⟩,0,0,rfl,?_,?_⟩
   ·exact below_set (below_set (below_set B2.out lr _) lr _) lr _
   ·rw[EN.out];exact⟨rfl,gs,HL.out,F3.out⟩
  ·have EN:=hid (dParse_bad hf (fun h=>hc (hcc.2 h)))
   have HC:=HidN.mk hc
   have hc1:(c' != 0)=true:=by simp[hc]
   clear hf hL hcc k hS hc
   go_wp2_with fail
   go_region
   go_wp2_with fail
   refine bodyPost_ret (v:=.tuple #[.slice none 0 0,.agg #[.string f,.int .i64 y,.int .i64 c']]) (by simp[results,Tryz.results86,go_sem,r0,r1,r2]) rfl ?_
   refine⟨none,0,0,f,y,c',rfl,?_,by rw[EN.out];exact⟨HC.out,rfl,rfl⟩⟩
   exact(below_set (below_set (below_set B2.out lr _) lr _) lr _).drew
theorem TrimP (s p:BA)(w:World):Calls Tryz.prog 229 #[.string s,.string p] w fun e w'=>e=.returned (.string (mkB (Lib.trimPrefix (bl s) (bl p))))∧w=w':=
 (Tryz.strings_TrimPrefix s p w).mono fun _ _ ⟨he,hw⟩=>⟨he,hw.symm⟩
structure TrmM.okT (t:TrmM):Prop where
 nm:dnameB (bl t.nm)=true
 qual:t.qual.size=0∨dwordB (bl t.qual)=true
 archs:∀ x∈t.archs,dwordB (aBare (bl x))=true
 op:t.op≤5
 ver0:t.op=0→t.ver.size=0
 ver:0<t.op→verE 1 t.ver=0
 nmz:t.nm.size≤64
 qualz:t.qual.size≤32
 verz:t.ver.size≤64
 archz:∀ x∈t.archs,x.size≤33
 few:t.archs.length≤1000000
theorem TrmM.okT_of {t:TrmM}(h:t.pl.good):t.okT:=by
 have p:=h.parts
 have z:=h.sizes
 refine⟨p.nm,?_,fun x hx=>p.archs (bl x) (List.mem_map.2 ⟨x,hx,rfl⟩),h.op,fun h0=>?_,fun h0=>?_,?_,?_,?_,fun x hx=>?_,?_⟩
 ·rcases p.qual with h0 | h0
  ·left;rw[←bl_length];exact List.length_eq_zero_iff.2 h0
  ·exact .inr h0
 ·rw[←bl_length];exact List.length_eq_zero_iff.2 (h.ver h0)
 ·have:=p.ver h0;rwa [show mkB t.pl.ver=t.ver from mk_bl _] at this
 ·rw[←bl_length];exact z.nm
 ·rw[←bl_length];exact z.qual
 ·rw[←bl_length];exact z.ver
 ·rw[←bl_length];exact z.archs (bl x) (List.mem_map.2 ⟨x,hx,rfl⟩)
 ·have:=h.few;simpa [TrmM.pl] using this
theorem ddep_check (t:TrmM)(h:t.okT)(w:World)(hG:Gl w)(hr:Rd w 1 t.aa t.archs.length (strCells t.archs)):
  Calls Tryz.prog 176 #[t.val] w fun e w'=>e=.returned (.int .i64 0)∧Below w.heap.size w w':=by
 unfold TrmM.val
 obtain⟨h1,h2,h3,h4,h5,h6,h7,h8,h9,h10,h11⟩:=h
 have HG:=hid hG;have HR:=hid hr
 have hN:=fun W=>ddep_Name t.nm W (by omega)
 rw[h1] at hN
 have HA:=hid h3
 have HZ:=hid h10
 have H5:=hid h5
 have H6:=hid h6
 clear hG hr h1 h3 h10 h5 h6
 obtain⟨nm,op,ver,qual,aa,ac,archs⟩:=t
 simp only at *
 obtain⟨W1,hW1⟩:∃ W1,w.alloc (.cells #[.string nm,.int .i64 op,.string ver,.string qual,.slice aa archs.length ac] 157)=W1:=⟨_,rfl⟩
 have K1:Hid (Blk W1 w.heap.size [.string nm,.int .i64 op,.string ver,.string qual,.slice aa archs.length ac]):=by rw[←hW1];exact Blk.new w _ _
 have B1:Hid (Below w.heap.size w W1):=by rw[←hW1];exact bR.alloc lr _
 obtain⟨c0,c1,c2,c3,c4,f0,f1,f2,f3,f4⟩:=K1.out.five
 clear f0 f1 f2 f3 f4
 go_enter Tryz.func176,Tryz.ntmps176
 go_upto_region 1 with(fail)
 clear hW1
 go_cut [20] (fun v wx=>v=.bool false∧W1=wx)
 case first=>
  by_cases q0:qual.size=0
  ·have he:qual.toList=[]:=by rw[bl_toList,bl_nil qual q0]
   have he2:qual.toList.isEmpty=true:=by rw[he];rfl
   go_wp2_with fail
   refine(hN _).mono ?_;rintro e w' ⟨rfl,rfl⟩
   go_wp2_with fail
   go_meet
   exact⟨rfl,rfl⟩
  ·have he2:qual.toList.isEmpty=false:=by rw[bl_toList,bl_isEmpty];exact dF q0
   have he:¬ qual.toList=[]:=by intro h;rw[h] at he2;simp at he2
   have hW:=fun W=>ddep_word qual W (by omega)
   rw[h2.resolve_left q0] at hW
   go_wp2_with fail
   refine(hN _).mono ?_;rintro e w' ⟨rfl,rfl⟩
   go_wp2_with fail
   refine(hW _).mono ?_;rintro e w' ⟨rfl,rfl⟩
   go_wp2_with fail
   go_meet
   exact⟨rfl,rfl⟩
 case rest=>
 obtain⟨rfl,rfl⟩:=hcut
 clear h2 hN
 go_wp2_with fail
 go_loop [24] (fun i=>∃ k:Nat,k≤archs.length∧i=.int .i64 k) (fun i=>archs.length-(intOf i).toNat)
 case atStart=>exact⟨0,z0,rfl⟩
 case round=>
  obtain⟨k,hk,rfl⟩:=hrel
  by_cases hlt:k<archs.length
  ·obtain⟨x,hx⟩:∃ x,archs[k]?=some x:=⟨_,gG hlt⟩
   obtain⟨b,off,hA,he⟩:=(HR.out.below B1.out).str k x hx
   have hix:=fun W=>idx_of (T:=22) (E:=9) (sz:=1) (c:=ac) Tryz.underlying22 rfl Tryz.sizeOf9 hA hlt W
   simp only[Nat.mul_one] at hix
   have hT:=fun W=>TrimP x ⟨#[33]⟩ W
   rw[show bl ⟨#[33]⟩=[33] from rfl,bare_trim] at hT
   have hxz:=HZ.out x (gM hx)
   have hW:=fun W=>ddep_word (mkB (aBare (bl x))) W (by rw[mk_size];have:=aBare_len (bl x);rw[bl_length] at this;omega)
   rw[bl_of,HA.out x (gM hx)] at hW
   clear hx hA
   go_wp2_with fail
   refine(hT _).mono ?_;rintro e w' ⟨rfl,rfl⟩
   go_wp2_with fail
   refine(hW _).mono ?_;rintro e w' ⟨rfl,rfl⟩
   go_wp2_with fail
   go_round
   case rel=>exact⟨k+1,by omega,by go_num⟩
   case measure=>simp[intOf];omega
  ·by_cases o0:op=0
   ·have hv:=H5.out o0
    have he:ver.toList=[]:=by rw[bl_toList,bl_nil ver hv]
    have he2:ver.toList.isEmpty=true:=by rw[he];rfl
    subst o0
    clear hv
    go_wp2_with fail
    go_ret
    exact⟨rfl,B1.out⟩
   ·have hv:=H6.out (by omega)
    have o1:decide ((op:Int)<0)=false:=dF (by omega)
    have o2:decide ((5:Int)<(op:Int))=false:=dF (by omega)
    have o3:((op:Int)==0)=false:=by simp;omega
    have hC:=fun W hW=>version_Check_any 1 ver W hW (by omega)
    rw[hv] at hC
    clear hv o0
    go_wp2_with fail
    refine(hC _ (HG.out.below B1.out)).mono ?_;rintro e w1 ⟨rfl,hb1⟩
    have B2:Hid (Below w.heap.size w w1):=bthen B1.out hb1
    clear hb1
    go_wp2_with fail
    go_ret
    exact⟨rfl,B2.out⟩
theorem grp_at {gs:List GrpM}{k:Nat}{g:GrpM}(h:gs[k]?=some g):(gs.map GrpM.sl)[k]?=some (.slice g.ga g.ts.length g.gc):=by rw[List.getElem?_map,h];rfl
theorem Rd.one {w:World}{A:Option Addr}{n:Nat}{xs:List Value}(h:Rd w 1 A n xs)(i:Nat)(v:Value)(hi:xs[i]?=some v)(hn:i<n):
  ∃ b off,A=some ⟨b,off,none⟩∧w.cell? ⟨b,off+i,none⟩=some v:=by
 obtain⟨b,off,e,hc⟩:=h.2 (by omega)
 exact⟨b,off,e,hc i _ hi⟩
def sumG (l:List GrpM):Nat:=(l.map fun g=>g.ts.length).sum
theorem sumG_take (l:List GrpM)(k:Nat)(g:GrpM)(h:l[k]?=some g):sumG (l.take (k+1))=sumG (l.take k)+g.ts.length:=by
 obtain⟨hk,hg⟩:=gS h
 unfold sumG;rw[tS hk,hg];simp
theorem sumG_le (l:List GrpM)(k:Nat):sumG (l.take k)≤sumG l:=by
 conv=>rhs;rw[←List.take_append_drop k l]
 unfold sumG;rw[List.map_append,List.sum_append];omega
structure FldW (gs:List GrpM):Prop where
 few:gs.length≤64
 sum:sumG gs≤64
 ne:∀ g∈gs,0<g.ts.length
 len:∀ g∈gs,g.ts.length≤64
 ok:∀ g∈gs,∀ t∈g.ts,t.okT
theorem FldW.of {gs:List GrpM}(h:FldGood (gs.map GrpM.pl)):FldW gs:=by
 have e:((gs.map GrpM.pl).map List.length).sum=sumG gs:=by unfold sumG;rw[List.map_map];congr 1;apply List.map_congr_left;intro g _;simp[GrpM.pl]
 have hs:=h.sum
 rw[e] at hs
 refine⟨by have:=h.few;simpa using this,hs,fun g hg=>?_,fun g hg=>?_,fun g hg t ht=>?_⟩
 ·have:=h.ne g.pl (List.mem_map.2 ⟨g,hg,rfl⟩)
  rcases Nat.eq_zero_or_pos g.ts.length with h0 | h0
  ·exact absurd (by unfold GrpM.pl;rw[List.length_eq_zero_iff.1 h0];rfl) this
  ·exact h0
 ·have:=sum_ge (L:=gs.map GrpM.pl) (g:=g.pl) (List.mem_map.2 ⟨g,hg,rfl⟩)
  rw[e] at this;unfold GrpM.pl at this;rw[List.length_map] at this;omega
 ·exact TrmM.okT_of (h.good g.pl (List.mem_map.2 ⟨g,hg,rfl⟩) t.pl (List.mem_map.2 ⟨t,ht,rfl⟩))
theorem ddep_Check (A:Option Addr)(c:Nat)(gs:List GrpM)(hW:FldW gs)(w:World)(hG:Gl w)(hr:FldOk w A gs):
  Calls Tryz.prog 124 #[.slice A gs.length c] w fun e w'=>e=.returned (.int .i64 0)∧Below w.heap.size w w':=by
 have HG:=hid hG;have HR:=hid hr;have HW:=hid hW
 have hfew:=hW.few
 clear hG hr hW
 go_enter Tryz.func124,Tryz.ntmps124
 go_wp2_with fail
 go_loop [3,15] (fun n i=>∃ k m:Nat,k≤gs.length∧m≤64∧n=.int .i64 m∧i=.int .i64 k∧Hid (m=sumG (gs.take k))) (fun _ i=>gs.length-(intOf i).toNat)
 case atStart=>exact⟨0,0,z0,by omega,rfl,rfl,rfl⟩
 case round=>
  obtain⟨k,m,hk,hm,rfl,rfl,HM⟩:=hrel
  by_cases hlt:k<gs.length
  ·obtain⟨g,hg⟩:∃ g,gs[k]?=some g:=⟨_,gG hlt⟩
   obtain⟨b,off,hA,he⟩:=HR.out.row.one k _ (grp_at hg) hlt
   have hix:=fun W=>idx_of (T:=115) (E:=155) (sz:=1) (c:=c) Tryz.underlying115 rfl Tryz.sizeOf155 hA hlt W
   simp only[Nat.mul_one] at hix
   have hgl:=HW.out.len g (gM hg)
   have hm2:m+g.ts.length≤64:=by have h1:=HM.out;have h2:=sumG_take gs k g hg;have h3:=sumG_le gs (k+1);have h4:=HW.out.sum;omega
   have HM2:Hid (m+g.ts.length=sumG (gs.take (k+1))):=by have h1:=HM.out;have h2:=sumG_take gs k g hg;show _=_;omega
   clear hg hA
   generalize g.ts.length=gl at *
   go_wp2_with fail
   go_round
   case rel=>exact⟨k+1,m+gl,by omega,hm2,by go_num,by go_num,HM2⟩
   case measure=>simp[intOf];omega
  ·have hm3:decide ((64:Int)<(m:Int))=false:=dF (by omega)
   clear HM
   go_wp2_with fail
   go_loop [2,28] (fun s2 i=>∃ k:Nat,k≤gs.length∧s2=.int .i64 0∧i=.int .i64 k) (fun _ i=>gs.length-(intOf i).toNat)
   case atStart=>exact⟨0,z0,rfl,rfl⟩
   case round=>
    obtain⟨j,hj,rfl,rfl⟩:=hrel
    by_cases hlt2:j<gs.length
    ·obtain⟨g,hg⟩:∃ g,gs[j]?=some g:=⟨_,gG hlt2⟩
     obtain⟨b,off,hA,he⟩:=HR.out.row.one j _ (grp_at hg) hlt2
     have hix:=fun W=>idx_of (T:=115) (E:=155) (sz:=1) (c:=c) Tryz.underlying115 rfl Tryz.sizeOf155 hA hlt2 W
     simp only[Nat.mul_one] at hix
     have hgl:=HW.out.len g (gM hg)
     have hgp:=HW.out.ne g (gM hg)
     clear hg hA
     generalize g.ts.length=gl at *
     have hg0:((gl:Int)==0)=false:=by simp;omega
     go_wp2_with fail
     go_round
     case rel=>exact⟨j+1,by omega,rfl,by go_num⟩
     case measure=>simp[intOf];omega
    ·go_wp2_with fail
     go_loopw [2,38] (fun s2 i wr=>∃ k:Nat,k≤gs.length∧s2=.int .i64 0∧i=.int .i64 k∧Hid (Below w.heap.size w wr)) (fun _ i _=>gs.length-(intOf i).toNat)
     case atStart=>exact⟨0,z0,rfl,rfl,bR⟩
     case round=>
      obtain⟨i,hi,rfl,rfl,HB⟩:=hrel
      by_cases hlt3:i<gs.length
      ·obtain⟨g,hg⟩:∃ g,gs[i]?=some g:=⟨_,gG hlt3⟩
       have HR1:=hid (HR.out.below HB.out)
       obtain⟨b,off,hA,he⟩:=HR1.out.row.one i _ (grp_at hg) hlt3
       have hix:=fun W=>idx_of (T:=115) (E:=155) (sz:=1) (c:=c) Tryz.underlying115 rfl Tryz.sizeOf155 hA hlt3 W
       simp only[Nat.mul_one] at hix
       have hgl:=HW.out.len g (gM hg)
       have HRG:=hid (HR.out.grp g (gM hg))
       have HRA:=hid (HR.out.archs g (gM hg))
       have HTK:=hid (HW.out.ok g (gM hg))
       obtain⟨gl,hgle⟩:∃ gl,g.ts.length=gl:=⟨_,rfl⟩
       rw[hgle] at he hgl
       have HGL:=hid hgle
       clear hg hA hgle HR1
       go_wp2_with fail
       obtain⟨wo,rfl⟩:∃ wo:World,wo=wr:=⟨_,rfl⟩
       go_loopw [2,44] (fun s2 q wr=>∃ k:Nat,k≤gl∧s2=.int .i64 0∧q=.int .i64 k∧Hid (Below w.heap.size w wr)) (fun _ q _=>gl-(intOf q).toNat)
       case atStart=>exact⟨0,z0,rfl,rfl,HB⟩
       case round=>
        obtain⟨q,hq,rfl,rfl,HB1⟩:=hrel
        by_cases hlt4:q<gl
        ·have HL4:Hid (q<g.ts.length):=by have:=HGL.out;show _<_;omega
         obtain⟨t,ht⟩:∃ t,g.ts[q]?=some t:=⟨_,gG HL4.out⟩
         obtain⟨b2,off2,hA2,he2⟩:=(HRG.out.below HB1.out).elem trm_len q t ht
         have e0:=he2 0 _ rfl
         have e1:=he2 1 _ rfl
         have e2:=he2 2 _ rfl
         have e3:=he2 3 _ rfl
         have e4:=he2 4 _ rfl
         simp only[Nat.add_zero] at e0
         have hix2:=fun W=>idx_of (T:=155) (E:=157) (sz:=5) (n:=gl) (c:=g.gc) Tryz.underlying155 rfl Tryz.sizeOf157 hA2 hlt4 W
         have TK:=hid (HTK.out t (gM ht))
         have TA:=hid (HRA.out t (gM ht))
         have B2:=hid (HB1.out.alloc HB1.out.size (.cells #[.string t.nm,.int .i64 t.op,.string t.ver,.string t.qual,.slice t.aa t.archs.length t.ac] 157))
         clear ht he2 hA2 he hix
         go_wp2_with fail
         refine(ddep_check t TK.out _ (HG.out.below B2.out) (TA.out.below B2.out)).mono ?_;rintro e w2 ⟨rfl,hb2⟩
         have B3:Hid (Below w.heap.size w w2):=bthen B2.out hb2
         clear hb2 e0 e1 e2 e3 e4 hix2
         go_wp2_with fail
         go_roundw
         case rel=>exact⟨q+1,by omega,rfl,by go_num,B3⟩
         case measure=>simp[intOf];omega
        ·go_wp2_with fail
         go_roundw
         case rel=>exact⟨i+1,by omega,rfl,by go_num,HB1⟩
         case measure=>simp[intOf];omega
      ·go_wp2_with fail
       go_ret
       exact⟨rfl,HB.out⟩
theorem r14_bare (s:BA)(w:World)(hs:s.size≤9223372036854775807):
  Calls Tryz.prog 254 #[.string s] w fun e w'=>e=.returned (.string (mkB (aBare (bl s))))∧w=w':=by
 by_cases h0:0<s.size
 ·obtain⟨d,hd⟩:∃ d:UInt8,s[0]=d:=⟨_,rfl⟩
  have h1:decide ((0:Int)<(s.size:Int))=true:=dT (by omega)
  have h2:decide (0<s.size)=true:=dT h0
  have HH:Hid (head0 33 (bl s)=(d==33)):=by have:=head_at s 0 33 h0;rw[List.drop_zero,hd] at this;exact this
  cases h33:(d==33) with
  | true=>
   have e33:((d.toNat:Int)==33)=true:=(toNat_beq d 33).trans h33
   have E:Hid (s.extract 1 s.size=mkB (aBare (bl s))):=by
    show _=_;apply eq_mk;rw[bl_drop];unfold aBare;rw[HH.out,h33];rfl
   have hs1:(1:Int)≤(s.size:Int):=by omega
   clear h33
   go_enter Tryz.func254,Tryz.ntmps254
   go_wp2_with fail
   go_ret
   exact⟨by rw[←E.out];rfl,rfl⟩
  | false=>
   have e33:((d.toNat:Int)==33)=false:=(toNat_beq d 33).trans h33
   have E:Hid (s=mkB (aBare (bl s))):=by
    show _=_;apply eq_mk;unfold aBare;rw[HH.out,h33];rfl
   clear h33
   go_enter Tryz.func254,Tryz.ntmps254
   go_wp2_with fail
   go_ret
   exact⟨by rw[←E.out];rfl,rfl⟩
 ·have h1:decide ((0:Int)<(s.size:Int))=false:=dF (by omega)
  have h2:decide (0<s.size)=false:=dF h0
  have E:Hid (s=mkB (aBare (bl s))):=by
   show _=_;apply eq_mk;rw[bl_nil s (by omega)];rfl
  go_enter Tryz.func254,Tryz.ntmps254
  go_wp2_with fail
  go_ret
  exact⟨by rw[←E.out];rfl,rfl⟩
theorem r14_relation (o:Nat)(ho:o<6)(w:World):
  Calls Tryz.prog 211 #[.int .i64 o] w fun e w'=>e=.returned (.string (dSign o))∧Below w.heap.size w w':=by
 rcases(by omega:o=0∨o=1∨o=2∨o=3∨o=4∨o=5) with rfl | rfl | rfl | rfl | rfl | rfl
 all_goals
  go_enter Tryz.func211,Tryz.ntmps211
  go_wp2_with fail
  go_ret
  exact⟨rfl,bR.alloc lr _⟩
theorem r14_Check (A:Option Addr)(c:Nat)(gs:List GrpM)(hW:FldW gs)(w:World)(hr:FldOk w A gs):
  Calls Tryz.prog 210 #[.slice A gs.length c] w fun e w'=>e=.returned (.int .i64 0)∧Below w.heap.size w w':=by
 have HR:=hid hr;have HW:=hid hW
 have hfew:=hW.few
 clear hr hW
 go_enter Tryz.func210,Tryz.ntmps210
 go_wp2_with fail
 go_loop [2,3,4] (fun s2 n i=>∃ k m:Nat,s2=.int .i64 0∧k≤gs.length∧m≤64∧n=.int .i64 m∧i=.int .i64 k∧Hid (m=sumG (gs.take k))) (fun _ _ i=>gs.length-(intOf i).toNat)
 case atStart=>exact⟨0,0,rfl,z0,by omega,rfl,rfl,rfl⟩
 case round=>
  obtain⟨k,m,rfl,hk,hm,rfl,rfl,HM⟩:=hrel
  by_cases hlt:k<gs.length
  ·obtain⟨g,hg⟩:∃ g,gs[k]?=some g:=⟨_,gG hlt⟩
   obtain⟨b,off,hA,he⟩:=HR.out.row.one k _ (grp_at hg) hlt
   have hix:=fun W=>idx_of (T:=115) (E:=155) (sz:=1) (c:=c) Tryz.underlying115 rfl Tryz.sizeOf155 hA hlt W
   simp only[Nat.mul_one] at hix
   have hgl:=HW.out.len g (gM hg)
   have hm2:m+g.ts.length≤64:=by have h1:=HM.out;have h2:=sumG_take gs k g hg;have h3:=sumG_le gs (k+1);have h4:=HW.out.sum;omega
   have HM2:Hid (m+g.ts.length=sumG (gs.take (k+1))):=by have h1:=HM.out;have h2:=sumG_take gs k g hg;show _=_;omega
   clear hg hA
   generalize g.ts.length=gl at *
   have hd1:decide ((64:Int)-(m:Int)<(gl:Int))=false:=dF (by omega)
   go_wp2_with fail
   go_round
   case rel=>exact⟨k+1,m+gl,rfl,by omega,hm2,by go_num,by go_num,HM2⟩
   case measure=>simp[intOf];omega
  ·clear HM
   go_wp2_with fail
   go_loop [2,5] (fun s2 i=>∃ k:Nat,k≤gs.length∧s2=.int .i64 0∧i=.int .i64 k) (fun _ i=>gs.length-(intOf i).toNat)
   case atStart=>exact⟨0,z0,rfl,rfl⟩
   case round=>
    obtain⟨j,hj,rfl,rfl⟩:=hrel
    by_cases hlt2:j<gs.length
    ·obtain⟨g,hg⟩:∃ g,gs[j]?=some g:=⟨_,gG hlt2⟩
     obtain⟨b,off,hA,he⟩:=HR.out.row.one j _ (grp_at hg) hlt2
     have hix:=fun W=>idx_of (T:=115) (E:=155) (sz:=1) (c:=c) Tryz.underlying115 rfl Tryz.sizeOf155 hA hlt2 W
     simp only[Nat.mul_one] at hix
     have hgl:=HW.out.len g (gM hg)
     have hgp:=HW.out.ne g (gM hg)
     clear hg hA
     generalize g.ts.length=gl at *
     have hg0:((gl:Int)==0)=false:=by simp;omega
     go_wp2_with fail
     go_round
     case rel=>exact⟨j+1,by omega,rfl,by go_num⟩
     case measure=>simp[intOf];omega
    ·go_wp2_with fail
     go_loopw [2,6] (fun s2 i wr=>∃ k:Nat,k≤gs.length∧s2=.int .i64 0∧i=.int .i64 k∧Hid (Below w.heap.size w wr)) (fun _ i _=>gs.length-(intOf i).toNat)
     case atStart=>exact⟨0,z0,rfl,rfl,bR⟩
     case round=>
      obtain⟨i,hi,rfl,rfl,HB⟩:=hrel
      by_cases hlt3:i<gs.length
      ·obtain⟨g,hg⟩:∃ g,gs[i]?=some g:=⟨_,gG hlt3⟩
       have hgl:=HW.out.len g (gM hg)
       have HRG:=hid (HR.out.grp g (gM hg))
       have HRA:=hid (HR.out.archs g (gM hg))
       have HTK:=hid (HW.out.ok g (gM hg))
       have HGA:=hid (fun (W:World) (hb:Below w.heap.size w W)=>(HR.out.below hb).row.one i _ (grp_at hg) hlt3)
       obtain⟨gl,hgle⟩:∃ gl,g.ts.length=gl:=⟨_,rfl⟩
       rw[hgle] at HGA hgl
       have HGL:=hid hgle
       clear hg hgle
       go_wp2_with fail
       obtain⟨wo,rfl⟩:∃ wo:World,wo=wr:=⟨_,rfl⟩
       go_loopw [2,7] (fun s2 q wr=>∃ k:Nat,k≤gl∧s2=.int .i64 0∧q=.int .i64 k∧Hid (Below w.heap.size w wr)) (fun _ q _=>gl-(intOf q).toNat)
       case atStart=>exact⟨0,z0,rfl,rfl,HB⟩
       case round=>
        obtain⟨q,hq,rfl,rfl,HB1⟩:=hrel
        obtain⟨b,off,hA,he⟩:=HGA.out _ HB1.out
        have hix:=fun W=>idx_of (T:=115) (E:=155) (sz:=1) (c:=c) Tryz.underlying115 rfl Tryz.sizeOf155 hA hlt3 W
        simp only[Nat.mul_one] at hix
        clear hA
        by_cases hlt4:q<gl
        ·have HL4:Hid (q<g.ts.length):=by have:=HGL.out;show _<_;omega
         obtain⟨t,ht⟩:∃ t,g.ts[q]?=some t:=⟨_,gG HL4.out⟩
         obtain⟨b2,off2,hA2,he2⟩:=(HRG.out.below HB1.out).elem trm_len q t ht
         have e0:=he2 0 _ rfl
         have e1:=he2 1 _ rfl
         have e2:=he2 2 _ rfl
         have e3:=he2 3 _ rfl
         have e4:=he2 4 _ rfl
         simp only[Nat.add_zero] at e0
         have hix2:=fun W=>idx_of (T:=155) (E:=157) (sz:=5) (n:=gl) (c:=g.gc) Tryz.underlying155 rfl Tryz.sizeOf157 hA2 hlt4 W
         have TK:=HTK.out t (gM ht)
         have TA:=hid (HRA.out t (gM ht))
         obtain⟨h1,h2,h3,h4,h5,h6,h7,h8,h9,h10,h11⟩:=TK
         obtain⟨nm,op,ver,qual,aa,ac,archs⟩:=t
         simp only at *
         have hN:=fun W=>r14_Name nm W (by omega)
         rw[h1] at hN
         have HA:=hid h3
         have HZ:=hid h10
         have H5:=hid h5
         have H6:=hid h6
         have HQ:=hid h2
         have W1K:Hid (Blk (wr.alloc (.cells #[.string nm,.int .i64 op,.string ver,.string qual,.slice aa archs.length ac] 157)) wr.heap.size [.string nm,.int .i64 op,.string ver,.string qual,.slice aa archs.length ac]):=Blk.new wr _ _
         have W1B:Hid (Below w.heap.size w (wr.alloc (.cells #[.string nm,.int .i64 op,.string ver,.string qual,.slice aa archs.length ac] 157))):=HB1.out.alloc HB1.out.size _
         clear ht he2 hA2 h1 h2 h3 h5 h6 h10
         go_upto_region 20 with(fail)
         generalize wr.alloc (.cells #[.string nm,.int .i64 op,.string ver,.string qual,.slice aa archs.length ac] 157)=W1 at W1K W1B ⊢
         clear he hix e0 e1 e2 e3 e4 hix2
         obtain⟨c0,c1,c2,c3,c4,f0,f1,f2,f3,f4⟩:=W1K.out.five
         clear f0 f1 f2 f3 f4
         go_cut [81] (fun v wx=>v=.bool false∧W1=wx)
         case first=>
          by_cases q0:qual.size=0
          ·have he:qual.toList=[]:=by rw[bl_toList,bl_nil qual q0]
           have he2:qual.toList.isEmpty=true:=by rw[he];rfl
           go_wp2_with fail
           refine(hN _).mono ?_;rintro e w' ⟨rfl,rfl⟩
           go_wp2_with fail
           go_meet
           exact⟨rfl,rfl⟩
          ·have he2:qual.toList.isEmpty=false:=by rw[bl_toList,bl_isEmpty];exact dF q0
           have he:¬ qual.toList=[]:=by intro h;rw[h] at he2;simp at he2
           have hW:=fun W=>r14_Word qual W (by omega)
           rw[HQ.out.resolve_left q0] at hW
           go_wp2_with fail
           refine(hN _).mono ?_;rintro e w' ⟨rfl,rfl⟩
           go_wp2_with fail
           refine(hW _).mono ?_;rintro e w' ⟨rfl,rfl⟩
           go_wp2_with fail
           go_meet
           exact⟨rfl,rfl⟩
         case rest=>
         obtain⟨rfl,rfl⟩:=hcut
         clear hN
         go_wp2_with fail
         go_loop [2,9] (fun s2 i=>∃ k:Nat,k≤archs.length∧s2=.int .i64 0∧i=.int .i64 k) (fun _ i=>archs.length-(intOf i).toNat)
         case atStart=>exact⟨0,z0,rfl,rfl⟩
         case round=>
          obtain⟨k5,hk5,rfl,rfl⟩:=hrel
          by_cases hlt5:k5<archs.length
          ·obtain⟨x,hx⟩:∃ x,archs[k5]?=some x:=⟨_,gG hlt5⟩
           obtain⟨b,off,hA,he⟩:=(TA.out.below W1B.out).str k5 x hx
           have hix:=fun W=>idx_of (T:=22) (E:=9) (sz:=1) (c:=ac) Tryz.underlying22 rfl Tryz.sizeOf9 hA hlt5 W
           simp only[Nat.mul_one] at hix
           have hxz:=HZ.out x (gM hx)
           have hT:=fun W=>r14_bare x W (by omega)
           have hW:=fun W=>r14_Word (mkB (aBare (bl x))) W (by rw[mk_size];have:=aBare_len (bl x);rw[bl_length] at this;omega)
           rw[bl_of,HA.out x (gM hx)] at hW
           clear hx hA
           go_wp2_with fail
           refine(hT _).mono ?_;rintro e w' ⟨rfl,rfl⟩
           go_wp2_with fail
           refine(hW _).mono ?_;rintro e w' ⟨rfl,rfl⟩
           go_wp2_with fail
           go_round
           case rel=>exact⟨k5+1,by omega,rfl,by go_num⟩
           case measure=>simp[intOf];omega
          ·by_cases o0:op=0
           ·have hv:=H5.out o0
            have he:ver.toList=[]:=by rw[bl_toList,bl_nil ver hv]
            have he2:ver.toList.isEmpty=true:=by rw[he];rfl
            subst o0
            clear hv
            go_wp2_with fail
            go_roundw
            case rel=>exact⟨q+1,by omega,rfl,by go_num,W1B⟩
            case measure=>simp[intOf];omega
           ·have hv:=H6.out (by omega)
            have o1:decide ((op:Int)<0)=false:=dF (by omega)
            have o2:decide ((5:Int)<(op:Int))=false:=dF (by omega)
            have o3:((op:Int)==0)=false:=by simp;omega
            have o4:decide ((0:Int)<(op:Int))=true:=dT (by omega)
            have o5:decide (0<op)=true:=dT (by omega)
            have hC:=fun W=>r12_Check 1 ver W (by omega)
            rw[hv] at hC
            clear hv o0
            go_wp2_with fail
            refine(hC _).mono ?_;rintro e w1 ⟨rfl,hb1⟩
            have B2:Hid (Below w.heap.size w w1):=bthen W1B.out hb1
            clear hb1
            go_wp2_with fail
            go_roundw
            case rel=>exact⟨q+1,by omega,rfl,by go_num,B2⟩
            case measure=>simp[intOf];omega
        ·go_wp2_with fail
         go_roundw
         case rel=>exact⟨i+1,by omega,rfl,by go_num,HB1⟩
         case measure=>simp[intOf];omega
      ·go_wp2_with fail
       go_ret
       exact⟨rfl,HB.out⟩
end
end Go.Proofs.YtdfdllbebfoggaaGreatDoor
