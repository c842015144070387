/- A part of the proof. -/
import Derived.Test.YtaohgmcbpafdeaaGreatDoorA16
import Derived.Test.YtaohgmcbpafdeaaGreatDoorA21
set_option maxRecDepth 100000
set_option maxHeartbeats 20000000
set_option linter.unusedVariables false
set_option linter.unusedSimpArgs false
namespace Go.Proofs.YtaohgmcbpafdeaaGreatDoor
section
open Go.RowKit Go.Maps
def fS (prev:Option av)(f:av):Bool:=match prev with
 | none=>true
 | some g=>decide (bl g.path<bl f.path)
def jc (pre:List av)(f:av):Bool:=Fo f.path&&pre.any (fun g=>decide (g.path=pg f.path)&&decide (g.kind≠2))
def jd (fmt:Int)(pre:List av)(f:av):Int:=
 if (cy (bl f.path)&&iE (bl f.path))=false then 10 else if fS pre.getLast? f=false then 15 else if ¬ (f.kind=1∨f.kind=2∨f.kind=3) then 9
 else if bW fmt f=false then 1 else if jc pre f=true then 9 else 0
def dt (fmt:Int):List av→List av→Option (BA×Int)
 | _,[]=>none
 | pre,f::r=>if jd fmt pre f=0 then dt fmt (pre++[f]) r else some (f.path,jd fmt pre f)
theorem Aa {fmt:Int}{fs:List av}{k:Nat}{f:av}(h:fs[k]?=some f)(h0:dt fmt [] fs=dt fmt (fs.take k) (fs.drop k))(he:jd fmt (fs.take k) f=0):dt fmt [] fs=dt fmt (fs.take (k+1)) (fs.drop (k+1)):=by
 obtain⟨hk,hf⟩:=gS h
 rw[h0,List.drop_eq_getElem_cons hk,hf,dt,if_pos he,tS hk,hf]
theorem gz {fmt:Int}{fs:List av}{k:Nat}{f:av}(h:fs[k]?=some f)(h0:dt fmt [] fs=dt fmt (fs.take k) (fs.drop k))(he:jd fmt (fs.take k) f≠0):dt fmt [] fs=some (f.path,jd fmt (fs.take k) f):=by
 obtain⟨hk,hf⟩:=gS h
 rw[h0,List.drop_eq_getElem_cons hk,hf,dt,if_neg he]
theorem CW {fmt:Int}{fs:List av}{k:Nat}(hk:fs.length≤k)(h0:dt fmt [] fs=dt fmt (fs.take k) (fs.drop k)):dt fmt [] fs=none:=by
 rw[h0,List.drop_of_length_le hk];rfl
def cM (fmt:Int)(fs:List av):BA×Int:=if 512<fs.length then (⟨#[102,105,108,101,115]⟩,4) else (dt fmt [] fs).getD (⟨#[]⟩,0)
def ni (fmt:Int)(fs:List av):Value:=.tuple #[.string (cM fmt fs).1,.int .i64 (cM fmt fs).2]
structure oE (pre:List av) (g:BA→Option Value):Prop where
 sorted:(bg pre).Pairwise (fun s t=>bl s<bl t)
 kind:∀ x∈pre,g x.path=some (.int .i64 x.kind)
 mem:∀ s,g s≠none→s∈bg pre
theorem oE.nil:oE [] (fun _=>none):=⟨by simp[bg],by simp,by simp⟩
theorem oE.less {pre:List av}{g:BA→Option Value}(h:oE pre g){f:av}(ho:fS pre.getLast? f=true):∀ x∈pre,bl x.path<bl f.path:=by
 intro x hx
 cases hl:pre.getLast? with
 | none=>rw[List.getLast?_eq_none_iff] at hl;subst hl;simp at hx
 | some y=>
  rw[hl] at ho
  have hyf:bl y.path<bl f.path:=dO ho
  obtain⟨ys,rfl⟩:=List.getLast?_eq_some_iff.1 hl
  rcases List.mem_append.1 hx with hx | hx
  ·have hs:=h.sorted
   rw[show bg (ys++[y])=bg ys++[y.path] by simp[bg],List.pairwise_append] at hs
   exact Ij (hs.2.2 x.path (List.mem_map.2 ⟨x,hx,rfl⟩) y.path (by simp)) hyf
  ·rw[List.mem_singleton.1 hx];exact hyf
theorem oE.put {pre:List av}{g:BA→Option Value}(h:oE pre g){f:av}(ho:fS pre.getLast? f=true):oE (pre++[f]) (fun x=>if x=f.path then some (.int .i64 f.kind) else g x):=by
 have hl:=h.less ho
 refine⟨?_,fun x hx=>?_,fun s hs=>?_⟩
 ·rw[show bg (pre++[f])=bg pre++[f.path] by simp[bg],List.pairwise_append]
  refine⟨h.sorted,by simp,fun a ha b hb=>?_⟩
  obtain⟨x,hx,rfl⟩:=List.mem_map.1 ha
  rw[List.mem_singleton.1 hb];exact hl x hx
 ·rcases List.mem_append.1 hx with hx | hx
  ·have hne:x.path≠f.path:=fun e=>by have:=hl x hx;rw[e] at this;exact ke _ this
   simp only[if_neg hne];exact h.kind x hx
  ·rw[List.mem_singleton.1 hx];simp
 ·by_cases e:s=f.path
  ·subst e;simp[bg]
  ·simp only[if_neg e] at hs
   have:=h.mem s hs
   simp only[bg,List.map_append,List.mem_append] at this ⊢
   exact .inl this
theorem oE.par {pre:List av}{g:BA→Option Value}(h:oE pre g)(f:av)(hp:Fo f.path=true):
  (g (pg f.path)=none∧jc pre f=false)∨∃ k:Int,g (pg f.path)=some (.int .i64 k)∧jc pre f=decide (k≠2):=by
 unfold jc
 rw[hp]
 cases hg:g (pg f.path) with
 | none=>
  refine .inl ⟨rfl,?_⟩
  rw[Bool.true_and,List.any_eq_false]
  intro x hx hc
  rw[Bool.and_eq_true] at hc
  have he:=dO hc.1
  have:=h.kind x hx
  rw[he,hg] at this;cases this
 | some v=>
  obtain⟨x,hx,he⟩:=List.mem_map.1 (h.mem (pg f.path) (by rw[hg];simp))
  have hk:=h.kind x hx
  have he:x.path=pg f.path:=he
  rw[he,hg] at hk
  injection hk with hk
  subst hk
  refine .inr ⟨x.kind,rfl,?_⟩
  rw[Bool.true_and,bI,List.any_eq_true,decide_eq_true_iff]
  constructor
  ·rintro⟨y,hy,hc⟩
   rw[Bool.and_eq_true] at hc
   have hye:=dO hc.1
   have hyk:=dO hc.2
   have h1:=h.kind y hy
   have h2:=h.kind x hx
   rw[hye] at h1
   rw[he,h1] at h2
   injection h2 with h2
   injection h2 with _ h2
   rw[←h2];exact hyk
  ·intro hk
   exact⟨x,hx,by rw[dT he,dT hk];rfl⟩
theorem LX (s:BA):(pg s).size≤s.size:=by
 have h:(bl (pg s)).length≤(bl s).length:=by
  unfold pg;rw[ii]
  unfold fK
  split
  ·cases dH 47 (bl s) with
   | none=>simp
   | some i=>simp only[Option.map_some,Option.getD_some];rw[List.length_take];omega
  ·simp
 rw[ag,ag] at h;exact h
theorem LY (w:World):(zeroValue 3).run Tryz.prog w=.ok (.int .i64 0) w:=by kernel_rfl
theorem oF (f:av)(pre:List av)(g:BA→Option Value)(mb B n:Nat)(w:World)(hG:Gl w)(hc:w.cell? ⟨mb,0,none⟩=some (.map (some B)))(hlt:mb<w.heap.size)(hM:aX w B n g)(hK:oE pre g)(hs:f.path.size≤4294967280):
  Calls Tryz.prog 81 #[.string f.path,.pointer (some ⟨mb,0,none⟩)] w fun e w'=>e=.returned (.bool (!jc pre f))∧Below w.heap.size w w':=by
 have HG:=ae hG;have HM:=ae hM;have HK:=ae hK;have HC:=ae hc
 clear hG hM hK hc
 go_enter Tryz.func81,Tryz.ntmps81
 go_wp2_with fail
 refine(xj f.path _ HG.out hs).mono ?_;rintro e w1 ⟨rfl,hb⟩
 have HB:=ae hb
 have hc1:w1.cell? ⟨mb,0,none⟩=some (.map (some B)):=(hb.cell (p:=⟨mb,0,none⟩) hlt).trans HC.out
 have hpl:=LX f.path
 have hlk:=(HM.out.below hb).look_ok Tryz.underlying87 LY (pg f.path) (by unfold maxLen;omega)
 clear hb
 unfold Fp
 cases hp:Fo f.path
 ·have E:Hid (jc pre f=false):=by show _=_;unfold jc;rw[hp];rfl
  clear hp
  go_wp2_with fail
  go_ret
  exact⟨af (by rw[E.out];rfl),HB.out⟩
 ·rcases HK.out.par f hp with⟨h1,h2⟩ | ⟨k,h1,h2⟩
  ·rw[h1] at hlk
   simp only[Option.getD_none,Option.isSome_none] at hlk
   have E:=ae h2
   clear h1 h2 hp
   go_wp2_with fail
   go_ret
   exact⟨af (by rw[E.out];rfl),HB.out⟩
  ·rw[h1] at hlk
   simp only[Option.getD_some,Option.isSome_some] at hlk
   by_cases hk:k=2
   ·have hk1:(k==2)=true:=by simpa using hk
    have E:Hid (jc pre f=false):=by show _=_;rw[h2];simp[hk]
    clear h1 h2 hp hk
    go_wp2_with fail
    go_ret
    exact⟨af (by rw[E.out];rfl),HB.out⟩
   ·have hk1:(k==2)=false:=by simpa using hk
    have E:Hid (jc pre f=true):=by show _=_;rw[h2];simp[hk]
    clear h1 h2 hp hk
    go_wp2_with fail
    go_ret
    exact⟨af (by rw[E.out];rfl),HB.out⟩
theorem gA {fmt:Int}{fs:List av}{p:BA}{e:Int}(hl:¬ 512<fs.length)(h:dt fmt [] fs=some (p,e)):ni fmt fs=.tuple #[.string p,.int .i64 e]:=by
 unfold ni cM;rw[if_neg hl,h];rfl
theorem GJ {fmt:Int}{fs:List av}(hl:¬ 512<fs.length)(h:dt fmt [] fs=none):ni fmt fs=.tuple #[.string ⟨#[]⟩,.int .i64 0]:=by
 unfold ni cM;rw[if_neg hl,h];rfl
theorem GK {fs:List av}{k:Nat}{f:av}(h:fs[k]?=some f):(fs.take (k+1)).getLast?=some f:=by
 obtain⟨hk,hf⟩:=gS h
 rw[tS hk,hf];simp
theorem JF (s t:BA):(Op.bytesLess s.toList t.toList||s.toList==t.toList)=!decide (bl t<bl s):=by
 rw[mj,dx,ah,ah]
 by_cases h:bl t<bl s
 ·rw[dT h]
  have h1:¬ bl s<bl t:=fun h'=>ke _ (Ij h h')
  have h2:s≠t:=fun e=>by rw[e] at h;exact ke _ h
  simp[h1,h2]
 ·rw[dF h]
  by_cases e:s=t
  ·simp[e]
  ·have:bl s<bl t:=lK h (fun h'=>e (dY h').symm)
   simp[this]
structure KU (w wr:World) (k:Nat) (pre:List av) (g:BA→Option Value):Prop where
 map:aX wr w.heap.size k g
 inv:oE pre g
 cell:wr.cell? ⟨w.heap.size+1,0,none⟩=some (.map (some w.heap.size))
 bel:Below w.heap.size w wr
 sz:w.heap.size+2≤wr.heap.size
theorem KU.below {w wr w':World}{k:Nat}{pre:List av}{g:BA→Option Value}(h:KU w wr k pre g)(hb:Below wr.heap.size wr w'):KU w w' k pre g:=
 ⟨h.map.below hb,h.inv,(hb.cell (p:=⟨w.heap.size+1,0,none⟩) (by have:=h.sz;show w.heap.size+1<_;omega)).trans h.cell,aq h.bel hb,Nat.le_trans h.sz hb.size⟩
theorem KU.start (w:World):KU w ((w.alloc (.map #[] 0)).alloc (.cells #[.map (some w.heap.size)] 87)) 0 [] (fun _=>none):=
 ⟨(aX.made w).alloc _,oE.nil,by simp,(bR.alloc lr _).alloc (by simp) _,by simp⟩
theorem KU.put {w wr w':World}{k:Nat}{pre:List av}{g:BA→Option Value}{f:av}(h:KU w wr k pre g)(ho:fS pre.getLast? f=true)(hm:aX w' w.heap.size (k+1) (fun x=>if x=f.path then some (.int .i64 f.kind) else g x))(hg:wr.grownBy w' (some w.heap.size)):KU w w' (k+1) (pre++[f]) (fun x=>if x=f.path then some (.int .i64 f.kind) else g x):=
 ⟨hm,h.inv.put ho,hg.cell h.cell (by simp),h.bel.grown hg h.bel.size (fun j hj=>by injection hj with hj;omega),Nat.le_trans h.sz hg.size⟩
theorem pz (fmt:Int)(hfmt:fmt=1∨fmt=2∨fmt=3)(A:OA)(c:Nat)(fs:List av)(w:World)(hG:Gl w)(hr:Rd w 8 A fs.length (fs.flatMap av.cells))(hn:fs.length≤9223372036854775807)(hf:∀ x∈fs,x.path.size≤4294967280∧x.owner.size≤4294967280∧x.group.size≤4294967280∧x.link.size≤4294967280∧x.sum.size≤4294967280):
  Calls Tryz.prog 58 #[.int .i64 fmt,.slice A fs.length c] w fun e w'=>e=.returned (ni fmt fs)∧Below w.heap.size w w':=by
 have HG:=ae hG;have HR:=ae hr;have HF:=ae hf
 clear hG hr hf
 by_cases h512:512<fs.length
 ·have E:Hid (ni fmt fs=.tuple #[.string ⟨#[102,105,108,101,115]⟩,.int .i64 4]):=by show _=_;unfold ni cM;rw[if_pos h512]
  go_enter Tryz.func58,Tryz.ntmps58
  go_wp2_with fail
  go_ret2
  exact⟨by rw[E.out];rfl,bR⟩
 have hmm:=@run_makeMap Tryz.prog
 go_enter Tryz.func58,Tryz.ntmps58
 go_wp2_with fail
 clear hmm
 go_loopw [17] (fun i wr=>∃ (k:Nat) (g:BA→Option Value),k≤fs.length∧i=.int .i64 k∧Hid (dt fmt [] fs=dt fmt (fs.take k) (fs.drop k))∧Hid (KU w wr k (fs.take k) g)) (fun i _=>fs.length-(intOf i).toNat)
 case atStart=>exact⟨0,_,z0,rfl,rfl,KU.start w⟩
 case round=>
  obtain⟨k,g,hk,rfl,HE,HS⟩:=hrel
  by_cases hlt:k<fs.length
  ·obtain⟨f,hf⟩:∃ f,fs[k]?=some f:=⟨_,gG hlt⟩
   obtain⟨fz1,fz2,fz3,fz4,fz5⟩:=HF.out f (gM hf)
   obtain⟨b,off,hA,he⟩:=(HR.out.below HS.out.bel).elem iD k f hf
   have e0:=he 0 _ rfl
   have e1:=he 1 _ rfl
   have e2:=he 2 _ rfl
   have e3:=he 3 _ rfl
   have e4:=he 4 _ rfl
   have e5:=he 5 _ rfl
   have e6:=he 6 _ rfl
   have e7:=he 7 _ rfl
   simp only[Nat.add_zero] at e0
   have hix:=fun W=>aI (T:=36) (E:=42) (sz:=8) (c:=c) Tryz.underlying36 rfl Tryz.sizeOf42 hA hlt W
   have HX:=ae hf
   clear hf he hA
   have X0:Hid (Bx wr (wr.alloc (.cells #[.string f.path,.int .i64 f.kind,.int .i64 f.mode,.string f.owner,.string f.group,.string f.link,.string f.sum,.bool f.conf] 42)) f.cells):=Bx.start wr f.cells _
   go_wp2_with fail
   clear e0 e1 e2 e3 e4 e5 e6 e7 hix
   refine(iN f.path _ (HG.out.below (aq HS.out.bel X0.out.bel)) (by omega)).mono ?_;rintro e w1 ⟨rfl,hb1⟩
   have X1:Hid (Bx wr w1 f.cells):=X0.out.step hb1
   clear hb1
   cases g1:cy (bl f.path)
   ·skip
    have c0:=X1.out.cell 0 _ rfl
    have FE:jd fmt (fs.take k) f=10:=by unfold jd;rw[g1];rfl
    have E:=ae (gA (fmt:=fmt) h512 (gz HX.out HE.out (by rw[FE];decide)))
    rw[FE] at E
    clear FE g1
    go_wp2_with fail
    go_ret2
    exact⟨by rw[E.out];rfl,aq HS.out.bel X1.out.bel⟩
   have G1:=ae g1;clear g1
   have c0:=X1.out.cell 0 _ rfl
   go_wp2_with fail
   refine(pN f.path _ (by omega)).mono ?_;rintro e w' ⟨rfl,rfl⟩
   cases g2:iE (bl f.path)
   ·skip
    have FE:jd fmt (fs.take k) f=10:=by unfold jd;rw[G1.out,g2];rfl
    have E:=ae (gA (fmt:=fmt) h512 (gz HX.out HE.out (by rw[FE];decide)))
    rw[FE] at E
    clear FE g2
    go_wp2_with fail
    go_ret2
    exact⟨by rw[E.out];rfl,aq HS.out.bel X1.out.bel⟩
   have G2:Hid ((cy (bl f.path)&&iE (bl f.path))=true):=by show _=_;rw[G1.out,g2];rfl
   clear g2
   go_upto_region 10 with(fail)
   go_cut [35] (fun s35 wx=>∃ bb:Bool,s35=.bool bb∧Hid (bb=!fS (fs.take k).getLast? f)∧Hid (Bx wr wx f.cells))
   case first=>
    by_cases k0:k=0
    ·have k0':decide (0<(k:Int))=false:=dF (by omega)
     have k0n:decide (0<k)=false:=dF (by omega)
     have OB:Hid (false=!fS (fs.take k).getLast? f):=by show _=_;rw[k0];rfl
     clear k0
     go_quiet (fail)
     go_wp2_with fail
     go_meet
     exact⟨false,rfl,OB,X1.out.drewN _⟩
    ·have k0':decide (0<(k:Int))=true:=dT (by omega)
     have k0n:decide (0<k)=true:=dT (by omega)
     have kpos:0<k:=by omega
     obtain⟨y,hy⟩:∃ y,fs[k-1]?=some y:=⟨_,gG (by omega)⟩
     have hly:(fs.take k).getLast?=some y:=by have:=GK hy;rw[show k-1+1=k by omega] at this;exact this
     obtain⟨b2,off2,hA2,he2⟩:=(HR.out.below (aq HS.out.bel X1.out.bel)).elem iD (k-1) y hy
     have p0:=he2 0 _ rfl
     simp only[Nat.add_zero] at p0
     have hixp:=fun W=>ra (T:=36) (E:=42) (sz:=8) (c:=c) (i:=(k:Int)-1) Tryz.underlying36 rfl Tryz.sizeOf42 (by omega) hA2 (show k-1<fs.length by omega) W
     have OB:Hid ((Op.bytesLess f.path.toList y.path.toList||f.path.toList==y.path.toList)=!fS (fs.take k).getLast? f):=by
      show _=_;rw[hly];exact JF f.path y.path
     have iw:IntKind.i64.wrap ((k:Int)-1)=(k:Int)-1:=IntWalk.i64_in _ (by omega)
     clear hy hly he2 hA2 k0
     go_quiet (fail)
     go_wp2_with fail
     go_meet
     exact⟨_,rfl,OB,X1.out.drewN _⟩
   case rest=>
   obtain⟨bb,rfl,HOB,X2⟩:=hcut
   clear c0
   have c0:=X2.out.cell 0 _ rfl
   have c1:=X2.out.cell 1 _ rfl
   cases bb
   case true=>
    have HO:Hid (fS (fs.take k).getLast? f=false):=by have:=HOB.out;show _=_;revert this;cases fS (fs.take k).getLast? f<;>simp
    have FE:jd fmt (fs.take k) f=15:=by unfold jd;rw[G2.out,HO.out];rfl
    have E:=ae (gA (fmt:=fmt) h512 (gz HX.out HE.out (by rw[FE];decide)))
    rw[FE] at E
    clear FE
    go_wp2_with fail
    go_ret2
    exact⟨by rw[E.out];rfl,aq HS.out.bel X2.out.bel⟩
   have HO:Hid (fS (fs.take k).getLast? f=true):=by have:=HOB.out;show _=_;revert this;cases fS (fs.take k).getLast? f<;>simp
   by_cases hkd:f.kind=1∨f.kind=2∨f.kind=3
   case neg=>
    have q1:(f.kind != 1)=true:=by simp[bne];omega
    have q2:(f.kind != 2)=true:=by simp[bne];omega
    have q3:(f.kind != 3)=true:=by simp[bne];omega
    have FE:jd fmt (fs.take k) f=9:=by unfold jd;rw[G2.out,HO.out,if_neg (by simp),if_neg (by simp),if_pos hkd]
    have E:=ae (gA (fmt:=fmt) h512 (gz HX.out HE.out (by rw[FE];decide)))
    rw[FE] at E
    clear FE hkd
    go_wp2_with fail
    go_ret2
    exact⟨by rw[E.out];rfl,aq HS.out.bel X2.out.bel⟩
   have QQ:Hid (¬ ¬ (f.kind=1∨f.kind=2∨f.kind=3)):=fun h=>h hkd
   have Q:decide (f.kind=1)=true∨(decide (f.kind=1)=false∧decide (f.kind=2)=true)∨(decide (f.kind=1)=false∧decide (f.kind=2)=false∧decide (f.kind=3)=true):=by
    by_cases h1:f.kind=1
    ·exact .inl (dT h1)
    by_cases h2:f.kind=2
    ·exact .inr (.inl ⟨dF h1,dT h2⟩)
    ·exact .inr (.inr ⟨dF h1,dF h2,dT⟩)
   clear hkd
   go_upto_region 12 with(fail)
   go_cut [51] (fun s51 wx=>s51=.bool false∧wc=wx)
   case first=>
    rcases Q with h | ⟨h,h'⟩ | ⟨h,h',h''⟩
    ·have q1:(f.kind != 1)=false:=by have:=dO h;simp[bne,this]
     clear h
     go_wp2_with fail
     go_meet
     exact⟨rfl,rfl⟩
    ·have q1:(f.kind != 1)=true:=by have:=of_decide_eq_false h;simp[bne,this]
     have q2:(f.kind != 2)=false:=by have:=dO h';simp[bne,this]
     clear h h'
     go_wp2_with fail
     go_meet
     exact⟨rfl,rfl⟩
    ·have q1:(f.kind != 1)=true:=by have:=of_decide_eq_false h;simp[bne,this]
     have q2:(f.kind != 2)=true:=by have:=of_decide_eq_false h';simp[bne,this]
     have q3:(f.kind != 3)=false:=by have:=dO h'';simp[bne,this]
     clear h h' h''
     go_wp2_with fail
     go_meet
     exact⟨rfl,rfl⟩
   case rest=>
   obtain⟨rfl,rfl⟩:=hcut
   have c2:=X2.out.cell 2 _ rfl
   have c3:=X2.out.cell 3 _ rfl
   have c4:=X2.out.cell 4 _ rfl
   have c5:=X2.out.cell 5 _ rfl
   have c6:=X2.out.cell 6 _ rfl
   have c7:=X2.out.cell 7 _ rfl
   go_wp2_with fail
   refine(qM fmt hfmt f _ (by omega) (by omega) (by omega) (by omega)).mono ?_;rintro e w3 ⟨rfl,hb3⟩
   have X3:Hid (Bx wr w3 f.cells):=X2.out.step hb3
   clear hb3 c0 c1 c2 c3 c4 c5 c6 c7
   have c0:=X3.out.cell 0 _ rfl
   cases g3:bW fmt f
   case false=>
    have FE:jd fmt (fs.take k) f=1:=by unfold jd;rw[G2.out,HO.out,if_neg (by simp),if_neg (by simp),if_neg QQ.out,g3];rfl
    have E:=ae (gA (fmt:=fmt) h512 (gz HX.out HE.out (by rw[FE];decide)))
    rw[FE] at E
    clear FE g3
    go_wp2_with fail
    go_ret2
    exact⟨by rw[E.out];rfl,aq HS.out.bel X3.out.bel⟩
   have G3:=ae g3;clear g3
   go_wp2_with fail
   have S3:=ae (HS.out.below X3.out.bel)
   refine(oF f (fs.take k) g (w.heap.size+1) w.heap.size k _ (HG.out.below S3.out.bel) S3.out.cell (by have:=S3.out.sz;omega) S3.out.map S3.out.inv fz1).mono ?_;rintro e w4 ⟨rfl,hb4⟩
   have X4:Hid (Bx wr w4 f.cells):=X3.out.step hb4
   have S4:=ae (S3.out.below hb4)
   clear hb4 c0
   have c0:=X4.out.cell 0 _ rfl
   have c1:=X4.out.cell 1 _ rfl
   cases g4:jc (fs.take k) f
   case true=>
    have FE:jd fmt (fs.take k) f=9:=by unfold jd;rw[G2.out,HO.out,if_neg (by simp),if_neg (by simp),if_neg QQ.out,G3.out,if_neg (by simp),g4];rfl
    have E:=ae (gA (fmt:=fmt) h512 (gz HX.out HE.out (by rw[FE];decide)))
    rw[FE] at E
    clear FE g4
    go_wp2_with fail
    go_ret2
    exact⟨by rw[E.out];rfl,aq HS.out.bel X4.out.bel⟩
   have FE:Hid (jd fmt (fs.take k) f=0):=by show _=_;unfold jd;rw[G2.out,HO.out,if_neg (by simp),if_neg (by simp),if_neg QQ.out,G3.out,if_neg (by simp),g4];rfl
   clear g4
   have hmc:=S4.out.cell
   obtain⟨w5,hrun5,hm5,hg5⟩:=S4.out.map.put Tryz.underlying87 (by unfold maxLen;omega) f.path (by unfold maxLen;omega) (.int .i64 f.kind)
   have S5:=ae (S4.out.put HO.out hm5 hg5)
   clear hm5 hg5
   go_wp2_with fail
   clear hrun5 hmc c0 c1
   have TK:Hid (fs.take (k+1)=fs.take k++[f]):=by show _=_;obtain⟨hk',hf'⟩:=gS HX.out;rw[tS hk',hf']
   go_roundw
   case rel=>exact⟨k+1,_,by omega,by go_num,ae (Aa HX.out HE.out FE.out),ae (by rw[TK.out];exact S5.out)⟩
   case measure=>simp[intOf];omega
  ·have E:=ae (GJ (fmt:=fmt) h512 (CW (by omega) HE.out))
   go_wp2_with fail
   go_ret2
   exact⟨by rw[E.out];rfl,HS.out.bel⟩
def Ba (x:av):Value:=.agg #[.int .i64 x.kind,.int .i64 x.mode,.string x.owner,.string x.group,.string x.link]
def lA (x y:av):Bool:=(x.kind==y.kind)&&((x.mode==y.mode)&&((x.owner.toList==y.owner.toList)&&((x.group.toList==y.group.toList)&&(x.link.toList==y.link.toList))))
theorem kr (a b:av):lA a b=true↔Ba a=Ba b:=by
 unfold lA Ba
 simp only[Bool.and_eq_true,dx,beq_iff_eq,decide_eq_true_iff]
 constructor
 ·rintro⟨h1,h2,h3,h4,h5⟩;rw[h1,h2,h3,h4,h5]
 ·intro h
  injection h with h
  have h:=congrArg Array.toList h
  simp only[List.cons.injEq,and_true] at h
  obtain⟨h1,h2,h3,h4,h5⟩:=h
  injection h1 with _ h1;injection h2 with _ h2;injection h3 with h3;injection h4 with h4;injection h5 with h5
  exact⟨h1,h2,h3,h4,h5⟩
def qg (fs:List av)(s:BA):Option av:=fs.find? fun y=>decide (y.path=s)
theorem nk {fs:List av}{s:BA}{y:av}(h:qg fs s=some y):y∈fs∧y.path=s:=
 by unfold qg at h;exact⟨List.mem_of_find?_eq_some h,by simpa using List.find?_some h⟩
theorem CY {fs:List av}{s:BA}(h:qg fs s=none):∀ y∈fs,y.path≠s:=by
 intro y hy he
 unfold qg at h
 have:=List.find?_eq_none.1 h y hy
 exact this (dT he)
def Ei (q:bJ)(x:av):Bool:=match qg q.files x.path with
 | none=>false
 | some y=>!lA y x
def conf (pre:List bJ)(x:av):Bool:=pre.any fun q=>Ei q x
def LZ (pre:List bJ)(p:bJ):Bool:=match pre.getLast? with | none=>true | some q=>decide (bl q.nm<bl p.nm)
def CZ (ans:BA×Int)(pre:List bJ)(p:bJ):BA×BA×Int:=
 if ans.2≠0 then (p.nm,ans.1,ans.2)
 else if LZ pre p=false then (p.nm,⟨#[110,97,109,101]⟩,15)
 else match p.files.find? (conf pre) with
  | some f=>(p.nm,f.path,8)
  | none=>(⟨#[]⟩,⟨#[]⟩,0)
def uv (ans:bJ→BA×Int):List bJ→List bJ→BA×BA×Int
 | _,[]=>(⟨#[]⟩,⟨#[]⟩,0)
 | pre,p::r=>if (CZ (ans p) pre p).2.2=0 then uv ans (pre++[p]) r else CZ (ans p) pre p
theorem JG {ans:bJ→BA×Int}{l:List bJ}{k:Nat}{p:bJ}(h:l[k]?=some p)(h0:uv ans [] l=uv ans (l.take k) (l.drop k))(he:(CZ (ans p) (l.take k) p).2.2=0):uv ans [] l=uv ans (l.take (k+1)) (l.drop (k+1)):=by
 obtain⟨hk,hf⟩:=gS h
 rw[h0,List.drop_eq_getElem_cons hk,hf,uv,if_pos he,tS hk,hf]
theorem xJ {ans:bJ→BA×Int}{l:List bJ}{k:Nat}{p:bJ}(h:l[k]?=some p)(h0:uv ans [] l=uv ans (l.take k) (l.drop k))(he:(CZ (ans p) (l.take k) p).2.2≠0):uv ans [] l=CZ (ans p) (l.take k) p:=by
 obtain⟨hk,hf⟩:=gS h
 rw[h0,List.drop_eq_getElem_cons hk,hf,uv,if_neg he]
theorem Ma {ans:bJ→BA×Int}{l:List bJ}{k:Nat}(hk:l.length≤k)(h0:uv ans [] l=uv ans (l.take k) (l.drop k)):uv ans [] l=(⟨#[]⟩,⟨#[]⟩,0):=by
 rw[h0,List.drop_of_length_le hk];rfl
def lB (l:List bJ)(k:Nat)(p:bJ):Bool:=LZ (l.take k) p
theorem GM (l:List bJ)(p:bJ):lB l 0 p=true:=by unfold lB LZ;simp
theorem GN {l:List bJ}{k:Nat}{q:bJ}(p:bJ)(h:l[k]?=some q):lB l (k+1) p=decide (bl q.nm<bl p.nm):=by
 obtain⟨hk,hf⟩:=gS h
 unfold lB LZ
 rw[tS hk]
 simp[hf]
theorem Mb {ans:BA×Int}{pre:List bJ}{p:bJ}(h:ans.2≠0):CZ ans pre p=(p.nm,ans.1,ans.2):=by unfold CZ;rw[if_pos h]
theorem Mc {ans:BA×Int}{l:List bJ}{k:Nat}{p:bJ}(h:ans.2=0)(ho:lB l k p=false):CZ ans (l.take k) p=(p.nm,⟨#[110,97,109,101]⟩,15):=by
 unfold CZ;unfold lB at ho;rw[if_neg (by simpa using h),if_pos ho]
theorem JH {ans:BA×Int}{l:List bJ}{k m:Nat}{p:bJ}{x:av}(h:ans.2=0)(ho:lB l k p=true)(hx:p.files[m]?=some x)(hn:∀ y∈p.files.take m,conf (l.take k) y=false)(hc:conf (l.take k) x=true):CZ ans (l.take k) p=(p.nm,x.path,8):=by
 unfold CZ;unfold lB at ho;rw[if_neg (by simpa using h),ho,if_neg (by simp)]
 have:p.files.find? (conf (l.take k))=some x:=by
  obtain⟨hm,hx⟩:=gS hx
  rw[←List.take_append_drop m p.files,List.find?_append,List.find?_eq_none.2 (fun y hy=>by rw[hn y hy];simp),List.drop_eq_getElem_cons hm,hx]
  simp[hc]
 rw[this]
theorem JI {ans:BA×Int}{l:List bJ}{k:Nat}{p:bJ}(h:ans.2=0)(ho:lB l k p=true)(hn:∀ y∈p.files,conf (l.take k) y=false):CZ ans (l.take k) p=(⟨#[]⟩,⟨#[]⟩,0):=by
 unfold CZ;unfold lB at ho;rw[if_neg (by simpa using h),ho,if_neg (by simp),List.find?_eq_none.2 (fun y hy=>by rw[hn y hy];simp)]
def yn (ans:bJ→BA×Int)(fo:Bool)(l:List bJ):BA×BA×Int:=
 if fo=false then (⟨#[]⟩,⟨#[102,111,114,109,97,116]⟩,9) else if 128<l.length then (⟨#[]⟩,⟨#[112,97,99,107,97,103,101,115]⟩,4) else uv ans [] l
def Nt (r:BA×BA×Int):Value:=.agg #[.string r.1,.string r.2.1,.int .i64 r.2.2]
structure pB (L:List av) (f:BA→Option Value):Prop where
 dom:∀ s,f s=none→∀ y∈L,y.path≠s
 mem:∀ s v,f s=some v→(∃ y∈L,y.path=s)∧∀ y∈L,y.path=s→Ba y=v
theorem pB.nil:pB [] (fun _=>none):=⟨by simp,by simp⟩
theorem pB.put {L:List av}{f:BA→Option Value}(h:pB L f)(x:av)(hx:f x.path=none∨f x.path=some (Ba x)):pB (L++[x]) (fun s=>if s=x.path then some (Ba x) else f s):=by
 refine⟨fun s hs y hy he=>?_,fun s v hv=>?_⟩
 ·by_cases e:s=x.path
  ·simp only[if_pos e] at hs;cases hs
  ·simp only[if_neg e] at hs
   rcases List.mem_append.1 hy with hy | hy
   ·exact h.dom s hs y hy he
   ·rw[List.mem_singleton.1 hy] at he;exact e he.symm
 ·by_cases e:s=x.path
  ·simp only[if_pos e] at hv
   injection hv with hv
   subst hv;subst e
   refine⟨⟨x,by simp,rfl⟩,fun y hy he=>?_⟩
   rcases List.mem_append.1 hy with hy | hy
   ·rcases hx with hx | hx
    ·exact absurd he (h.dom _ hx y hy)
    ·exact(h.mem _ _ hx).2 y hy he
   ·rw[List.mem_singleton.1 hy]
  ·simp only[if_neg e] at hv
   obtain⟨⟨y,hy,he⟩,h2⟩:=h.mem s v hv
   refine⟨⟨y,by simp[hy],he⟩,fun z hz hze=>?_⟩
   rcases List.mem_append.1 hz with hz | hz
   ·exact h2 z hz hze
   ·rw[List.mem_singleton.1 hz] at hze;exact absurd hze.symm e
def jh (l:List bJ)(k:Nat)(fs:List av):List av:=(l.take k).flatMap bJ.files++fs
theorem pB.fresh {l:List bJ}{k:Nat}{fs:List av}{f:BA→Option Value}(h:pB (jh l k fs) f){x:av}(hx:f x.path=none):conf (l.take k) x=false:=by
 unfold conf
 rw[List.any_eq_false]
 intro q hq hc
 unfold Ei at hc
 cases e:qg q.files x.path with
 | none=>rw[e] at hc;cases hc
 | some y=>
  obtain⟨hy,hp⟩:=nk e
  exact h.dom _ hx y (List.mem_append_left _ (List.mem_flatMap.2 ⟨q,hq,hy⟩)) hp
theorem pB.same {l:List bJ}{k:Nat}{fs:List av}{f:BA→Option Value}(h:pB (jh l k fs) f){x:av}(hx:f x.path=some (Ba x)):conf (l.take k) x=false:=by
 unfold conf
 rw[List.any_eq_false]
 intro q hq hc
 unfold Ei at hc
 cases e:qg q.files x.path with
 | none=>rw[e] at hc;cases hc
 | some y=>
  rw[e] at hc
  obtain⟨hy,hp⟩:=nk e
  have:=(h.mem _ _ hx).2 y (List.mem_append_left _ (List.mem_flatMap.2 ⟨q,hq,hy⟩)) hp
  have h2:=(kr y x).2 this
  simp[h2] at hc
theorem pB.other {l:List bJ}{k:Nat}{fs:List av}{f:BA→Option Value}(h:pB (jh l k fs) f){x:av}{v:Value}(hx:f x.path=some v)(hne:v≠Ba x)(hf:∀ y∈fs,y.path≠x.path):conf (l.take k) x=true:=by
 obtain⟨⟨y,hy,hp⟩,h2⟩:=h.mem _ _ hx
 rcases List.mem_append.1 hy with hy | hy
 ·obtain⟨q,hq,hyq⟩:=List.mem_flatMap.1 hy
  unfold conf
  rw[List.any_eq_true]
  refine⟨q,hq,?_⟩
  unfold Ei
  cases e:qg q.files x.path with
  | none=>exact absurd hp (CY e y hyq)
  | some z=>
   obtain⟨hz,hzp⟩:=nk e
   have h3:=h2 z (List.mem_append_left _ (List.mem_flatMap.2 ⟨q,hq,hz⟩)) hzp
   show(!lA z x)=true
   cases ha:lA z x with
   | false=>rfl
   | true=>exact absurd (h3.symm.trans ((kr z x).1 ha)) hne
 ·exact absurd hp (hf y hy)
theorem wl {l:List bJ}{k:Nat}{p:bJ}(h:l[k]?=some p):jh l (k+1) []=jh l k p.files:=by
 obtain⟨hk,hx⟩:=gS h
 unfold jh;rw[tS hk,hx];simp
theorem GO (l:List bJ)(k:Nat){fs:List av}{m:Nat}{x:av}(h:fs[m]?=some x):jh l k (fs.take (m+1))=jh l k (fs.take m)++[x]:=by
 obtain⟨hk,hx⟩:=gS h
 unfold jh;rw[tS hk,hx];simp
theorem Ac (l:List bJ)(k:Nat)(p:bJ)(m:Nat)(h:l[k]?=some p):(jh l k (p.files.take m)).length≤lJ l:=by
 have key:∀ (L:List bJ),(L.flatMap bJ.files).length≤lJ L:=by
  intro L
  induction L with
  | nil=>simp[lJ]
  | cons a r ih=>
   have h3:a.files.length≤cT a.files:=by
    unfold cT
    generalize a.files=fs
    induction fs with
    | nil=>simp
    | cons a r ih=>simp at *;omega
   unfold lJ at ih ⊢
   rw[List.flatMap_cons,List.length_append,List.map_cons,List.sum_cons]
   have hw:jB a=dn a+bY a.needs+bY a.bars+eA a.gives+cT a.files+eC a.scripts:=rfl
   omega
 have h1:=key (l.take (k+1))
 have h2:(jh l k (p.files.take m)).length≤((l.take (k+1)).flatMap bJ.files).length:=by
  have e:=wl h
  have e2:jh l (k+1) []=(l.take (k+1)).flatMap bJ.files:=by unfold jh;simp
  rw[←e2,e]
  unfold jh
  rw[List.length_append,List.length_append,List.length_take];omega
 have h3:lJ (l.take (k+1))≤lJ l:=by
  have e:lJ l=lJ (l.take (k+1))+lJ (l.drop (k+1)):=by
   unfold lJ;rw[←List.sum_append,←List.map_append,List.take_append_drop]
  omega
 omega
theorem Af {fmt:Int}{fs:List av}(h:(cM fmt fs).2=0):(bg fs).Pairwise (fun s t=>bl s<bl t):=by
 unfold cM at h
 split at h
 ·simp at h
 ·have key:∀ (r pre:List av),(∃ g,oE pre g)→((dt fmt pre r).getD (⟨#[]⟩,0)).2=0→(bg (pre++r)).Pairwise (fun s t=>bl s<bl t):=by
   intro r
   induction r with
   | nil=>rintro pre ⟨g,hg⟩ _;simpa using hg.sorted
   | cons a r ih=>
    rintro pre ⟨g,hg⟩ h
    rw[dt] at h
    by_cases he:jd fmt pre a=0
    ·rw[if_pos he] at h
     have ho:fS pre.getLast? a=true:=by
      unfold jd at he
      cases e1:(cy (bl a.path)&&iE (bl a.path)) with
      | false=>rw[e1] at he;simp at he
      | true=>
       cases e2:fS pre.getLast? a with
       | false=>rw[e1,e2] at he;simp at he
       | true=>rfl
     have:=ih (pre++[a]) ⟨_,hg.put ho⟩ h
     simpa using this
    ·rw[if_neg he] at h;exact absurd h he
  have:=key fs [] ⟨_,oE.nil⟩ h
  simpa using this
theorem GP {fs:List av}(h:(bg fs).Pairwise (fun s t=>bl s<bl t)){m:Nat}{x:av}(hx:fs[m]?=some x):∀ y∈fs.take m,y.path≠x.path:=by
 intro y hy he
 obtain⟨hm,hx⟩:=gS hx
 have e:bg fs=bg (fs.take m)++bg (fs.drop m):=by unfold bg;rw[←List.map_append,List.take_append_drop]
 rw[e,List.pairwise_append] at h
 have:=h.2.2 y.path (List.mem_map.2 ⟨y,hy,rfl⟩) x.path (by rw[List.drop_eq_getElem_cons hm,hx];simp[bg])
 rw[he] at this;exact ke _ this
end
end Go.Proofs.YtaohgmcbpafdeaaGreatDoor
