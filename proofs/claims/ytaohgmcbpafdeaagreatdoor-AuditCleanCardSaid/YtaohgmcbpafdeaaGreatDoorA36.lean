/- A part of the proof. -/
import Derived.Test.YtaohgmcbpafdeaaGreatDoorA16
import Derived.Test.YtaohgmcbpafdeaaGreatDoorA19
import Derived.Test.YtaohgmcbpafdeaaGreatDoorA21
set_option maxRecDepth 100000
set_option maxHeartbeats 20000000
set_option linter.unusedVariables false
set_option linter.unusedSimpArgs false
namespace Go.Proofs.YtaohgmcbpafdeaaGreatDoor
section
open Go.RowKit
def AJ (e:am):Int:=if e.kind=4 then 1 else e.kind
def Bb (tree:List am)(e:am):LU:=if e.kind=4 then ((aV tree e.link).map am.data).getD [] else e.data
def gI (e:am)(f:av):Bool:=decide (e.mode≠f.mode)||(decide (e.owner≠f.owner)||(decide (e.group≠f.group)||(decide (AJ e=3)&&decide (e.link≠f.link))))
def eL (fmt:Int)(tree:List am)(f:av):List cl:=match aV tree f.path with
 | none=>[(f.path,1)]
 | some e=>if AJ e≠f.kind then [(f.path,2)] else
  (if gI e f=true then [(f.path,3)] else [])++(if AJ e=1∧f.sum≠Kf fmt (Bb tree e) then [(f.path,4)] else [])
def bL (db:List bJ):List av:=db.flatMap bJ.files
def lF (fmt:Int)(db:List bJ)(sh:BA→Prop)(tree:List am)(x:cl):Prop:=
 (∃ f∈bL db,x∈eL fmt tree f)∨(x.2=6∧sh x.1∧((ek (bL db) x.1).map av.kind).getD 0≠2)∨(x.2=5∧(∃ e∈tree,e.path=x.1)∧ek (bL db) x.1=none)
theorem Dn {fmt:Int}{tree:List am}{f:av}{x:cl}(h:x∈eL fmt tree f):x.2=1∨x.2=2∨x.2=3∨x.2=4:=by
 unfold eL at h
 split at h
 ·rw[List.mem_singleton.1 h];simp
 ·split at h
  ·rw[List.mem_singleton.1 h];simp
  ·rcases List.mem_append.1 h with h | h
   ·split at h
    ·rw[List.mem_singleton.1 h];simp
    ·cases h
   ·split at h
    ·rw[List.mem_singleton.1 h];simp
    ·cases h
theorem ug (l:List am)(y:am)(s:BA):aV (l++[y]) s=match aV l s with | some x=>some x | none=>if y.path=s then some y else none:=by
 unfold aV
 rw[List.find?_append]
 cases l.find? fun y=>decide (y.path=s) with
 | some x=>rfl
 | none=>
  simp only[Option.none_or,List.find?_cons]
  by_cases h:y.path=s
  ·rw[dT h,if_pos h]
  ·rw[dF h,if_neg h];rfl
theorem Do {fmt:Int}{tree:List am}(hF:kY tree){y:am}{f:av}(hf:aV tree f.path≠none):eL fmt (tree++[y]) f=eL fmt tree f:=by
 unfold eL
 rw[ug]
 cases h:aV tree f.path with
 | none=>exact absurd h hf
 | some e=>
  simp only
  have hd:Bb (tree++[y]) e=Bb tree e:=by
   unfold Bb
   split
   ·rename_i h4
    obtain⟨k,hk⟩:=List.getElem?_of_mem (dA h).1
    obtain⟨i,g,_,hg,hp,_⟩:=hF.hard k e hk h4
    rw[ug]
    cases h2:aV tree e.link with
    | none=>exact absurd hp (nX h2 g (gM hg))
    | some z=>rfl
   ·rfl
  rw[hd]
theorem Dp {l:List av}{s:BA}:ek l s=none↔∀ f∈l,f.path≠s:=by
 induction l with
 | nil=>simp[ek]
 | cons x r ih=>
  unfold ek
  cases h:ek r s with
  | some k=>
   simp only
   constructor
   ·intro e;cases e
   ·intro H
    have:ek r s=none:=ih.2 fun f hf=>H f (List.mem_cons_of_mem _ hf)
    rw[this] at h;cases h
  | none=>
   simp only
   by_cases hx:x.path=s
   ·rw[if_pos hx];constructor
    ·intro e;cases e
    ·intro H;exact absurd hx (H x (List.mem_cons_self ..))
   ·rw[if_neg hx];constructor
    ·intro _ f hf
     rcases List.mem_cons.1 hf with rfl | hf
     ·exact hx
     ·exact ih.1 h f hf
    ·intro _;rfl
theorem qj {fmt:Int}{db:List bJ}{sh:BA→Prop}{tree:List am}{fs:List cl}(h1:∀ x,x∈fs↔lF fmt db sh tree x)(hc:∀ x∈fs,x.2=6):∀ f∈bL db,aV tree f.path≠none:=by
 intro f hf hn
 have hm:(f.path,1)∈fs:=(h1 _).2 (.inl ⟨f,hf,by unfold eL;rw[hn];exact List.mem_singleton.2 rfl⟩)
 have:=hc _ hm
 simp at this
theorem Dq {fmt:Int}{db:List bJ}{sh:BA→Prop}{tree:List am}{y:am}{fs ms:List cl}(hF:kY tree)(hF2:kY (tree++[y]))(hn1:fs.Nodup)(hn2:ms.Nodup)
  (h1:∀ x,x∈fs↔lF fmt db sh tree x)(h2:∀ x,x∈ms↔lF fmt db sh (tree++[y]) x)(hc:∀ x∈fs,x.2=6):ms.Perm (fs++[(y.path,5)]):=by
 have hfiles:=qj h1 hc
 have hy:∀ e∈tree,e.path≠y.path:=fun e he hp=>by
  obtain⟨i,hi⟩:=List.getElem?_of_mem he
  have hil:=(gS hi).1
  have:=hF2.nd i tree.length e y (by rw[List.getElem?_append_left hil];exact hi) (by simp) hp
  omega
 have hnf:(y.path,5) ∉ fs:=fun h=>by have:=hc _ h;simp at this
 refine(List.perm_ext_iff_of_nodup hn2 ?_).2 fun x=>?_
 ·rw[List.nodup_append]
  refine⟨hn1,by simp,fun a ha b hb e=>?_⟩
  rw[List.mem_singleton.1 hb] at e
  exact hnf (e ▸ ha)
 ·rw[List.mem_append,List.mem_singleton,h2]
  constructor
  ·rintro(⟨f,hf,hx⟩ | ⟨hx,hs,hk⟩ | ⟨hx,⟨e,he,hp⟩,hl⟩)
   ·rw[Do hF (hfiles f hf)] at hx
    exact .inl ((h1 x).2 (.inl ⟨f,hf,hx⟩))
   ·exact .inl ((h1 x).2 (.inr (.inl ⟨hx,hs,hk⟩)))
   ·rcases List.mem_append.1 he with he | he
    ·have hm:=(h1 x).2 (.inr (.inr ⟨hx,⟨e,he,hp⟩,hl⟩))
     have:=hc x hm
     omega
    ·rw[List.mem_singleton.1 he] at hp
     right
     obtain⟨x1,x2⟩:=x
     simp only at hx hp
     rw[hx,←hp]
  ·rintro(hx | rfl)
   ·have h6:=hc x hx
    rcases(h1 x).1 hx with⟨f,hf,hh⟩ | h | ⟨h5,_⟩
    ·have:=Dn hh;omega
    ·exact .inr (.inl h)
    ·omega
   ·refine .inr (.inr ⟨rfl,⟨y,List.mem_append_right _ (List.mem_singleton.2 rfl),rfl⟩,Dp.2 fun f hf hp=>?_⟩)
    cases h:aV tree f.path with
    | none=>exact hfiles f hf h
    | some e=>exact hy e (dA h).1 ((dA h).2.trans hp)
theorem Mj {l:List am}{s:BA}(h:aV l s≠none):0≤eU l s 0:=by
 have key:∀ (l:List am)(k:Int),0≤k→aV l s≠none→0≤eU l s k:=by
  intro l
  induction l with
  | nil=>intro k _ h;exact absurd rfl h
  | cons x r ih=>
   intro k hk h
   unfold eU
   split
   ·exact hk
   ·rename_i hx
    refine ih (k+1) (by omega) ?_
    unfold aV at h ⊢
    rw[List.find?_cons,dF hx] at h
    exact h
 exact key l 0 (Int.le_refl 0) h
end
section
open Go.RowKit Go.Maps
def N9 (l:List am)(w:World)(e:Ending)(w':World):Prop:=(∃ b:Bool,e=.returned (.bool b)∧(b=true→l.length≤40∧∀ x∈l,x.lite))∧Below w.heap.size w w'
theorem AQ (A:OA)(c:Nat)(l:List am)(w:World)(hE:dz w A l)(hn:l.length≤9223372036854775807)(hf:∀ x∈l,x.fits):
  Calls Tryz.prog 11 #[.slice A l.length c,.int .i64 40,.int .i64 5000] w (N9 l w):=by
 have HE:=ae hE
 have HF:=ae hf
 clear hE hf
 have hm:=fun ats ty a w=>NA ats ty a w
 go_enter Tryz.func11,Tryz.ntmps11
 by_cases hl:l.length≤40
 case neg=>
  have q:(40:Int)<(l.length:Int):=by omega
  go_wp2_with fail
  go_ret
  exact⟨⟨false,rfl,fun h=>by cases h⟩,bR⟩
 go_wp2_with fail
 go_loopw [7,8] (fun s i wr=>∃ (k:Nat) (n:Int),k≤l.length∧s=.int .i64 n∧i=.int .i64 k∧0≤n∧n≤30005∧Hid (n≤5000→∀ x∈l.take k,x.lite)∧Hid (Below w.heap.size w wr)) (fun _ i _=>l.length-(intOf i).toNat)
 case atStart=>exact⟨0,0,z0,rfl,rfl,by omega,by omega,(fun _ x hx=>by simp at hx),bR⟩
 case round=>
  obtain⟨k,n,hk,rfl,rfl,hn0,hn1,U,B⟩:=hrel
  by_cases hlt:k<l.length
  ·by_cases hle:n≤5000
   ·obtain⟨x,hx⟩:∃ x,l[k]?=some x:=⟨_,gG hlt⟩
    obtain⟨b,off,hA,hel⟩:=((HE.out.below B.out).row).elem fi k x hx
    have hix:=fun W=>aI (T:=23) (E:=45) (sz:=10) (c:=c) Tryz.underlying23 rfl Tryz.sizeOf45 hA hlt W
    have e0:=hel 0 _ rfl
    have e5:=hel 5 _ rfl
    have e6:=hel 6 _ rfl
    have e8:=hel 8 _ rfl
    have e9:=hel 9 _ rfl
    simp only[Nat.add_zero] at e0
    have fx:=HF.out x (gM hx)
    have f0:=fx.path
    have f5:=fx.owner
    have f6:=fx.group
    have f8:=fx.link
    have f9:=fx.data
    obtain⟨a0,a1,A2⟩:=ue x.path.size
    obtain⟨b0,b1,B2⟩:=ue x.link.size
    obtain⟨c0,c1,C2⟩:=ue x.owner.size
    obtain⟨d0,d1,D2⟩:=ue x.group.size
    obtain⟨g0,g1,G2⟩:=ue x.data.length
    have HX:=ae hx
    clear hx hA hel fx
    have A3:=ae A2
    have B3:=ae B2
    have C3:=ae C2
    have D3:=ae D2
    have G3:=ae G2
    clear A2 B2 C2 D2 G2
    go_wp2_with fail
    go_quiet (fail)
    go_wp2_with fail
    go_roundw
    case rel=>
     refine⟨k+1,_,by omega,rfl,by go_num,by omega,by omega,fun h y hy=>?_,an B.out _⟩
     rw[ny HX.out] at hy
     rcases List.mem_append.1 hy with hy | hy
     ·exact U.out (by omega) y hy
     ·rw[List.mem_singleton.1 hy]
      exact⟨A3.out (by omega),C3.out (by omega),D3.out (by omega),B3.out (by omega),G3.out (by omega)⟩
    case measure=>simp[intOf];omega
   ·have q:(5000:Int)<n:=by omega
    go_wp2_with fail
    go_ret
    exact⟨⟨false,rfl,fun h=>by cases h⟩,B.out⟩
  ·have hkl:k=l.length:=by omega
   subst hkl
   obtain⟨bb,hbb⟩:∃ bb,decide (n≤5000)=bb:=⟨_,rfl⟩
   have U2:Hid (bb=true→∀ x∈l,x.lite):=fun h=>by have:=U.out (dO (hbb.trans h));rwa [List.take_length] at this
   have HL:=ae hl
   have HB:=ae hbb
   go_wp2_with fail
   go_ret
   exact⟨⟨_,rfl,fun h=>⟨HL.out,U2.out h⟩⟩,B.out⟩
def Oa (db:List bJ)(tree:List am)(s:BA):Prop:=(db.length≤40∧lJ db≤10000)∧(tree.length≤40∧∀ x∈tree,x.lite)∧s.size≤500
theorem AS (A:OA)(c:Nat)(db:List bJ)(Ae:OA)(ce:Nat)(tree:List am)(rb:Nat)(s:BA)(w:World)(hd:oO w A db)(hf:∀ p∈db,p.fits)(hl:db.length≤9223372036854775807)(hE:dz w Ae tree)(hEf:∀ x∈tree,x.fits)(hel:tree.length≤9223372036854775807)(hr:w.cell? ⟨rb,0,none⟩=some (.string s))(hs:s.size≤9223372036854775807):
  Calls Tryz.prog 5 #[.slice A db.length c,.slice Ae tree.length ce,.slice (some ⟨rb,0,none⟩) 1 1] w fun e w'=>(∃ b:Bool,e=.returned (.bool b)∧(b=true→Oa db tree s))∧Below w.heap.size w w':=by
 have HD:=ae hd
 have HF:=ae hf
 have HE:=ae hE
 have HEF:=ae hEf
 have HR:=ae hr
 have HRL:Hid (rb<w.heap.size):=by show _<_;exact World.block_lt_of_cell? _ _ hr
 clear hd hf hE hEf hr
 go_enter Tryz.func5,Tryz.ntmps5
 go_wp2_with fail
 refine(EC A c db 40 (by decide) 10000 (by decide) (by decide) w HD.out HF.out hl).mono ?_;rintro e w1 ⟨⟨lb,rfl,hlb⟩,hb1⟩
 have B1:=ae hb1
 have L1:=ae hlb
 clear hb1 hlb
 cases lb
 case false=>
  go_wp2_with fail
  go_ret
  exact⟨⟨false,rfl,fun h=>by cases h⟩,B1.out⟩
 go_wp2_with fail
 refine(AQ Ae ce tree w1 (HE.out.below B1.out) hel HEF.out).mono ?_;rintro e w2 ⟨⟨bb,rfl,hbb⟩,hb2⟩
 have B2:=ae (aq B1.out hb2)
 have L2:=ae hbb
 clear hb2 hbb B1
 cases bb
 case false=>
  go_wp2_with fail
  go_ret
  exact⟨⟨false,rfl,fun h=>by cases h⟩,B2.out⟩
 have hix:∀ W,(Instr.indexAt 26 (.slice (some ⟨rb,0,none⟩) 1 1) (.int .i64 0)).run Tryz.prog W=.ok (.pointer (some ⟨rb,0,none⟩)) W:=fun W=>by
  have:=aI (T:=26) (E:=9) (sz:=1) (n:=1) (k:=0) (c:=1) (A:=some ⟨rb,0,none⟩) (off:=0) (b:=rb) Tryz.underlying26 rfl Tryz.sizeOf9 rfl (by omega) W
  simpa using this
 have r0:w2.cell? ⟨rb,0,none⟩=some (.string s):=(B2.out.cell (p:=⟨rb,0,none⟩) HRL.out).trans HR.out
 by_cases h5:s.size≤500
 case neg=>
  have h6:(500:Int)<(s.size:Int):=by omega
  clear h5
  go_wp2_with fail
  refine wp_loop_rounds 2 ?_;rw[rounds_succ]
  go_wp2_with fail
  go_ret
  exact⟨⟨false,rfl,fun h=>by cases h⟩,B2.out⟩
 have h6:¬ (500:Int)<(s.size:Int):=by omega
 have H5:=ae h5
 clear h5
 go_wp2_with fail
 refine wp_loop_rounds 2 ?_;rw[rounds_succ]
 go_wp2_with fail
 rw[rounds_succ]
 go_wp2_with fail
 go_ret
 exact⟨⟨true,rfl,fun _=>⟨by have:=L1.out (by first | rfl | trivial);exact⟨this.1,by omega⟩,L2.out (by first | rfl | trivial),H5.out⟩⟩,B2.out⟩
theorem Mq {l:List am}{s:BA}:∀ {f:Nat}{u:am}(k:Int),(l.map am.path).Nodup→l[f]?=some u→u.path=s→eU l s k=k+f:=by
 induction l with
 | nil=>intro f u k _ h;simp at h
 | cons x r ih=>
  intro f u k hn hf hp
  rw[List.map_cons,List.nodup_cons] at hn
  unfold eU
  cases f with
  | zero=>
   simp at hf
   rw[hf,if_pos hp];simp
  | succ f=>
   have hf:r[f]?=some u:=by simpa using hf
   rw[if_neg (fun e=>hn.1 (by rw[e,←hp];exact List.mem_map.2 ⟨u,gM hf,rfl⟩)),ih (k+1) hn.2 hf hp]
   omega
theorem Hs {l:List am}{s:BA}:∀ (k:Int),(∀ x∈l,x.path≠s)→eU l s k=-1:=by
 induction l with
 | nil=>intro k _;rfl
 | cons x r ih=>
  intro k h
  unfold eU
  rw[if_neg (h x (List.mem_cons_self ..)),ih _ fun y hy=>h y (List.mem_cons_of_mem _ hy)]
theorem wA {w:World}{A:OA}{l:List am}(h:dz w A l)(k:Nat):dz w A (l.take k):=⟨h.row.take fi k,fun x hx=>h.all x (List.mem_of_mem_take hx)⟩
theorem mI (A:OA)(c n:Nat)(l:List am)(hl:l.length=n)(s:BA)(w:World)(hE:dz w A l)(hn:l.length≤100000)(v:Int)(hv:eU l s 0=v):
  Calls Tryz.prog 7 #[.slice A n c,.string s] w fun e w'=>e=.returned (.int .i64 v)∧w'=w:=by
 subst hl;subst hv
 exact(uf A c l s w hE hn).mono fun e w' h=>⟨h.1,h.2.symm⟩
theorem uo (a b:BA)(w:World)(ha:a.size≤9223372036854775807)(hb:b.size≤9223372036854775807)(v:Bool)(hv:ip (aL b) a=v):Calls Tryz.prog 47 #[.string a,.string b] w fun e w'=>e=.returned (.bool v)∧w'=w:=by
 subst hv
 exact(Hr a b w ha hb).mono fun e w' h=>⟨h.1,h.2.symm⟩
theorem EB.lim {w W:World}{x:am}(h:EB w W x):W.cell? ⟨w.heap.size,0,none⟩=some (.string x.path)∧W.cell? ⟨w.heap.size,1,none⟩=some (.int .i64 x.kind)∧W.cell? ⟨w.heap.size,2,none⟩=some (.int .i64 x.mode)∧W.cell? ⟨w.heap.size,3,none⟩=some (.int .i64 x.uid)∧W.cell? ⟨w.heap.size,4,none⟩=some (.int .i64 x.gid)∧W.cell? ⟨w.heap.size,5,none⟩=some (.string x.owner)∧W.cell? ⟨w.heap.size,6,none⟩=some (.string x.group)∧W.cell? ⟨w.heap.size,7,none⟩=some (.int .i64 x.mtime)∧W.cell? ⟨w.heap.size,8,none⟩=some (.string x.link)∧W.cell? ⟨w.heap.size,9,none⟩=some (.slice x.da x.data.length x.dc):=⟨h.blk.cell 0 _ rfl,h.blk.cell 1 _ rfl,h.blk.cell 2 _ rfl,h.blk.cell 3 _ rfl,h.blk.cell 4 _ rfl,h.blk.cell 5 _ rfl,h.blk.cell 6 _ rfl,h.blk.cell 7 _ rfl,h.blk.cell 8 _ rfl,h.blk.cell 9 _ rfl⟩
theorem Hg.lim10 {W:World}{b o:Nat}{x:am}(h:Hg W b o x):W.cell? ⟨b,o,none⟩=some (.string x.path)∧W.cell? ⟨b,o+1,none⟩=some (.int .i64 x.kind)∧W.cell? ⟨b,o+2,none⟩=some (.int .i64 x.mode)∧W.cell? ⟨b,o+3,none⟩=some (.int .i64 x.uid)∧W.cell? ⟨b,o+4,none⟩=some (.int .i64 x.gid)∧W.cell? ⟨b,o+5,none⟩=some (.string x.owner)∧W.cell? ⟨b,o+6,none⟩=some (.string x.group)∧W.cell? ⟨b,o+7,none⟩=some (.int .i64 x.mtime)∧W.cell? ⟨b,o+8,none⟩=some (.string x.link)∧W.cell? ⟨b,o+9,none⟩=some (.slice x.da x.data.length x.dc):=⟨h.cell 0 _ rfl,h.cell 1 _ rfl,h.cell 2 _ rfl,h.cell 3 _ rfl,h.cell 4 _ rfl,h.cell 5 _ rfl,h.cell 6 _ rfl,h.cell 7 _ rfl,h.cell 8 _ rfl,h.cell 9 _ rfl⟩
end
end Go.Proofs.YtaohgmcbpafdeaaGreatDoor
