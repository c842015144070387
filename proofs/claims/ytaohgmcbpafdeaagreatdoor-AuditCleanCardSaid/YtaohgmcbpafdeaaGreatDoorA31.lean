/- A part of the proof. -/
import Derived.Test.YtaohgmcbpafdeaaGreatDoorA27
import Derived.Test.YtaohgmcbpafdeaaGreatDoorA30
set_option maxRecDepth 100000
set_option maxHeartbeats 20000000
set_option linter.unusedVariables false
set_option linter.unusedSimpArgs false
namespace Go.Proofs.YtaohgmcbpafdeaaGreatDoor
section
open Go.RowKit Go.Deep
theorem fP {w:World}{base b j:Nat}{e:TypeId}{size n c:Nat}{A:OA}{xs:LV}{v:Value}(h:w.ownsRow base e size (.slice A n c) n xs)(hb:b<base):(w.setCell ⟨b,j,none⟩ v).ownsRow base e size (.slice A n c) n xs:=by
 have hg:w.grownBy (w.setCell ⟨b,j,none⟩ v) (some b):=aY (World.grownBy.refl w (some b)) (.inl rfl) _
 refine h.kept hg ?_
 cases hq:(Value.slice A n c).ownBlock with
 | none=>exact .inl rfl
 | some q=>right;intro he;injection he with he;have:=(h.lt q hq).1;omega
theorem Cf (s:BA)(w:World)(hG:BV w)(hs:s.size≤4294967280):
  Calls Tryz.prog 115 #[.string s] w (Cd (gq (bl s)) w):=by
 obtain⟨i0,hi0,hz0,hz1,hz2⟩:=info_parts FS
 have HG:=ae hG;clear hG
 go_enter Tryz.func115,Tryz.ntmps115
 go_wp2_with fail
 go_loopw [4,5] (fun l p wr=>∃ (L:List fF) (A:OA) (n c k f:Nat),l=.slice A n c∧p=.int .i64 k∧k≤s.size∧n≤64∧Hid (uS w wr L A n c)∧Hid (gq (bl s)=la (f+1) L ((bl s).drop k))∧Hid (s.size-k≤f)) (fun _ p _=>s.size-(intOf p).toNat)
 case atStart=>exact⟨[],none,0,0,0,s.size,rfl,rfl,z0,by omega,uS.start w,by show _=_;rw[List.drop_zero,←ag];exact BI _,lr⟩
 case round=>
  obtain⟨L,A,n,c,k,f,rfl,rfl,hk,hn,HR,HN,HF⟩:=hrel
  by_cases hlt:k<s.size
  ·have HD:Hid ((bl s).drop k=s[k]::(bl s).drop (k+1)):=by
    show _=_;rw[List.drop_eq_getElem_cons (by rw[ag];exact hlt),gj s k hlt]
   obtain⟨d,hd⟩:∃ d:UInt8,s[k]=d:=⟨_,rfl⟩
   rw[hd] at HD
   by_cases hd32:d.toNat=32
   ·have hdd:d=32:=UInt8.toNat_inj.1 hd32
    have HN2:Hid (gq (bl s)=la (f+1) L ((bl s).drop (k+1))):=by show _=_;rw[HN.out,HD.out,hdd,BJ]
    have HF2:Hid (s.size-(k+1)≤f):=by have:=HF.out;show _≤_;omega
    clear hdd
    go_wp2_with fail
    go_roundw
    case rel=>exact⟨L,A,n,c,k+1,f,rfl,by go_num,by omega,hn,HR,HN2,HF2⟩
    case measure=>simp[intOf];omega
   ·obtain⟨R,hR⟩:∃ R,s.extract k s.size=R:=⟨_,rfl⟩
    have hRb:bl R=(bl s).drop k:=by rw[←hR,cv]
    have hRz:R.size=s.size-k:=by rw[←ag,hRb,List.length_drop,ag]
    obtain⟨Wd,hWd⟩:∃ Wd,fX R ⟨#[32]⟩=Wd:=⟨_,rfl⟩
    have hWb:bl Wd=((bl s).drop k).take (aA dp ((bl s).drop k)):=by
     rw[←hWd,←hRb,←LE];unfold fX;rw[ii];rfl
    have hink:dp (((bl s).drop k).headD 32)=true:=by
     rw[HD.out];simp only[List.headD_cons,dp];simp;intro e;exact hd32 (by rw[e];rfl)
    have hWz:Wd.size=aA dp ((bl s).drop k):=by
     rw[←ag,hWb,List.length_take];have:=fh dp ((bl s).drop k);omega
    have hWp:0<Wd.size:=by
     rw[hWz,HD.out]
     have:dp d=true:=by rw[HD.out] at hink;exact hink
     simp[aA,this]
    have hWl:Wd.size≤s.size-k:=by
     rw[hWz];have:=fh dp ((bl s).drop k);rw[List.length_drop,ag] at this;exact this
    have HK:=ae hink
    have HWB:=ae hWb
    have HWZ:=ae hWz
    clear hink hWb hWz hRb
    have hkk:(k:Int)≤(s.size:Int):=by omega
    go_wp2_with fail
    refine(bD R ⟨#[32]⟩ _ (HG.out.1.below HR.out.bel) (by omega)).mono ?_;rintro e w1 ⟨rfl,hb1⟩
    rw[hWd]
    have HR1:=ae (HR.out.below hb1)
    clear hb1 hWd hR
    by_cases h64:n=64
    ·have E:Hid (gq (bl s)=none):=by
      show _=_;rw[HN.out];exact BK HK.out (by rw[HR1.out.len];exact h64)
     have h64':((n:Int)==64)=true:=by simp;omega
     have r0:=HR1.out.ret.cell 0 _ rfl
     have r1:=HR1.out.ret.cell 1 _ rfl
     have r2:=HR1.out.ret.cell 2 _ rfl
     have fr0:=HR1.out.ret.free 0 (by simp)
     have fr1:=HR1.out.ret.free 1 (by simp)
     have fr2:=HR1.out.ret.free 2 (by simp)
     go_wp2_with fail
     refine bodyPost_ret (v:=.tuple #[.slice none 0 0,.agg #[.string ⟨#[]⟩,.int .i64 k,.int .i64 4]]) (by simp[results,Tryz.results115,go_sem,r0,r1,r2]) rfl ?_
     refine⟨none,0,0,⟨#[]⟩,k,4,rfl,?_,by rw[E.out];exact⟨by decide,rfl,rfl⟩⟩
     exact ak (ak (ak HR1.out.bel lr _) lr _) lr _
    have h64':((n:Int)==64)=false:=by simp;omega
    go_wp2_with fail
    refine(BN Wd _ (HG.out.1.below HR1.out.bel) (by omega)).mono ?_;rintro e w2 ⟨hpost,hb2⟩
    have HR2:=ae (HR1.out.below hb2)
    clear hb2
    cases hw:gg (bl Wd) with
    | none=>
     rw[hw] at hpost
     obtain⟨a,y,hy,rfl⟩:=hpost
     have E:Hid (gq (bl s)=none):=by
      show _=_;rw[HN.out];exact Fu HK.out (by rw[←HWB.out];exact hw)
     have HY:=uD.mk hy
     clear hw hy
     unfold vN
     go_wp2_with fail
     have HR3:=ae (HR2.out.below (bR.alloc lr (.cells #[.bool false,.string ⟨#[]⟩,.int .i64 0,.string ⟨#[]⟩] 235)))
     refine(xw a y k _ (HG.out.below HR3.out.bel)).mono ?_;rintro e w4 ⟨⟨q,rfl⟩,hb4⟩
     have HR4:=ae (HR3.out.below hb4)
     clear hb4
     have r0:=HR4.out.ret.cell 0 _ rfl
     have r1:=HR4.out.ret.cell 1 _ rfl
     have r2:=HR4.out.ret.cell 2 _ rfl
     have fr0:=HR4.out.ret.free 0 (by simp)
     have fr1:=HR4.out.ret.free 1 (by simp)
     have fr2:=HR4.out.ret.free 2 (by simp)
     unfold ec
     go_wp2_with fail
     refine bodyPost_ret (v:=.tuple #[.slice none 0 0,.agg #[.string ⟨#[]⟩,.int .i64 q,.int .i64 y]]) (by simp[results,Tryz.results115,go_sem,r0,r1,r2]) rfl ?_
     refine⟨none,0,0,⟨#[]⟩,q,y,rfl,?_,by rw[E.out];exact⟨HY.out,rfl,rfl⟩⟩
     exact ak (ak (ak HR4.out.bel lr _) lr _) lr _
    | some x=>
     rw[hw] at hpost
     obtain rfl:=hpost
     have HN2:Hid (gq (bl s)=la (f-1+1) (L++[x]) ((bl s).drop (k+Wd.size))):=by
      have hf:=HF.out
      show _=_
      rw[HN.out,Fv HK.out (by rw[HR2.out.len];exact h64) (by rw[←HWB.out];exact hw),List.drop_drop,HWZ.out,show f-1+1=f by omega]
     have HF2:Hid (s.size-(k+Wd.size)≤f-1):=by have:=HF.out;show _≤_;omega
     clear hw
     unfold fF.val
     go_wp2_with (at_builtin;refine aD _ rfl _ _ _ rfl (w.heap.size+1) 235 i0 _ 4 48 Tryz.underlying183 hi0 hz0 hz1 hz2 rfl (by omega) (.slice A n c) n _ rfl ((HR2.out.row.alloc _).alloc _) (w2.heap.size+1+1) (some ⟨w2.heap.size+1,0,none⟩) 1 1 x.cells rfl (by have:=Ce (w2.alloc (.cells x.cells.toArray 235)) 235 (.bool x.no) (.string (bC x.name)) (.int .i64 x.op) (.string (bC x.ver));simpa [fF.cells] using this) (by simp[Value.oneCell',fF.cells]) (by simp only[maxLen];omega) (by omega) (by simp;have:=HR2.out.ret.sz;omega) ?_;intro v1 w3 o1 g1 a1)
     obtain⟨A1,c1,rfl⟩:=aP o1
     have R3:=ae (HR2.out.grow (x:=x) o1 g1)
     clear o1 g1 a1
     go_wp2_with fail
     go_roundw
     case rel=>exact⟨L++[x],A1,n+1,c1,k+Wd.size,f-1,rfl,by go_num,by omega,by omega,R3,HN2,HF2⟩
     case measure=>simp[intOf];omega
  ·have E:Hid (gq (bl s)=some L):=by
    show _=_;rw[HN.out,List.drop_of_length_le (by rw[ag];omega),IV]
   have r0:=HR.out.ret.cell 0 _ rfl
   have r1:=HR.out.ret.cell 1 _ rfl
   have r2:=HR.out.ret.cell 2 _ rfl
   have fr0:=HR.out.ret.free 0 (by simp)
   have fr1:=HR.out.ret.free 1 (by simp)
   have fr2:=HR.out.ret.free 2 (by simp)
   go_wp2_with fail
   refine bodyPost_ret (v:=.tuple #[.slice A n c,.agg #[.string ⟨#[]⟩,.int .i64 0,.int .i64 0]]) (by simp[results,Tryz.results115,go_sem,r0,r1,r2]) rfl ?_
   refine⟨A,n,c,⟨#[]⟩,0,0,rfl,?_,?_⟩
   ·exact ak (ak (ak HR.out.bel lr _) lr _) lr _
   ·rw[E.out]
    exact⟨rfl,HR.out.len.symm,dV (fP (fP (fP HR.out.row (Nat.lt_succ_self _)) (Nat.lt_succ_self _)) (Nat.lt_succ_self _)) (Nat.le_succ _)⟩
theorem Ng {l:LU}(h:lf oo l=none):fN l=none:=by unfold fN;rw[h]
theorem Nh {l nm r:LU}(h:lf oo l=some (nm,r))(h1:jN r=none):fN l=none:=by unfold fN;rw[h];simp only[h1]
theorem Ni {l nm r q r1:LU}(h:lf oo l=some (nm,r))(h1:jN r=some (q,r1))(h2:jn (aH r1)=none):fN l=none:=by unfold fN;rw[h];simp only[h1,h2]
theorem Nj {l nm r q r1 v r2:LU}{op:Nat}(h:lf oo l=some (nm,r))(h1:jN r=some (q,r1))(h2:jn (aH r1)=some (op,v,r2))(h3:gZ r2=none):fN l=none:=by unfold fN;rw[h];simp only[h1,h2,h3]
theorem Nk {l nm r q r1 v r2 r3:LU}{op:Nat}{ar:List (LU)}(h:lf oo l=some (nm,r))(h1:jN r=some (q,r1))(h2:jn (aH r1)=some (op,v,r2))(h3:gZ r2=some (ar,r3)):fN l=some (⟨nm,q,op,v,ar⟩,r3):=by unfold fN;rw[h];simp only[h1,h2,h3]
theorem Jd {r:LU}(h:ay 58 r=false):jN r=some ([],r):=by unfold jN;rw[h];rfl
theorem vS {r:LU}(h:ay 58 r=true):jN r=lf ik (r.drop 1):=by unfold jN;rw[h];rfl
theorem Je {r:LU}(h:ay 40 r=false):jn r=some (0,[],r):=by unfold jn;rw[h];rfl
theorem FW {r:LU}(h:ay 40 r=true):jn r=uK (r.drop 1):=by unfold jn;rw[h];rfl
theorem FX {r:LU}(h:ay 91 r=false):gZ r=some ([],r):=by unfold gZ;rw[h];rfl
theorem Cj {r:LU}(h:ay 91 r=true):gZ r=eE (r.length+1) (aH (r.drop 1)):=by unfold gZ;rw[h];rfl
structure qF (w wr:World) (a:Nat) (s:BA) (k n:Nat) (c:Int) (vs:LV):Prop where
 tb:ax wr w.heap.size vs
 dr:DR wr a s k n c
 gr:w.grownBy wr (some a)
 lt:a<w.heap.size
theorem qF.step {w wr w':World}{a:Nat}{s:BA}{k k' n n':Nat}{c c':Int}{vs:LV}(h:qF w wr a s k n c vs)(hg:wr.grownBy w' (some a))(hd:DR w' a s k' n' c'):qF w w' a s k' n' c' vs:=
 ⟨h.tb.grownBy hg (by intro e;injection e with e;have:=h.lt;omega),hd,ai h.gr hg,h.lt⟩
theorem qF.set {w wr:World}{a:Nat}{s:BA}{k n:Nat}{c:Int}{vs:LV}(h:qF w wr a s k n c vs)(j:Nat)(hj:j<vs.length)(v:Value):qF w (wr.setCell ⟨w.heap.size,j,none⟩ v) a s k n c (vs.set j v):=
 ⟨h.tb.set j hj v,h.dr.far (by have:=h.lt;omega) v,aY h.gr (.inr lr) v,h.lt⟩
theorem qF.start {w:World}{a:Nat}{s:BA}{k n:Nat}{c:Int}(h:DR w a s k n c)(vs:LV)(t:TypeId):qF w (w.alloc (.cells vs.toArray t)) a s k n c vs:=
 ⟨ax.new w vs t,h.alloc _,World.grownBy_alloc w _ _,h.sz⟩
def iV (r:Option (du×LU))(a:Nat)(s:BA)(p n:Nat)(c:Int)(w:World)(e:Ending)(w':World):Prop:=
 w.grownBy w' (some a)∧match r with
  | none=>∃ (T:cA) (p' n':Nat) (c':Int),e=.returned (.tuple #[T.val,.bool false])∧DR w' a s p' n' c'
  | some (t,r)=>∃ (T:cA) (p':Nat) (c':Int),e=.returned (.tuple #[T.val,.bool true])∧T.pl=t∧T.own w' w.heap.size∧DR w' a s p' (n+1) c'∧p<p'∧(bl s).drop p'=r∧(c'=0↔c=0∧t.right=true∧n+1≤64)
theorem qF.same {w wr:World}{a:Nat}{s:BA}{k n:Nat}{c:Int}{v0 v1 v2 v3 v4:Value}(h:qF w wr a s k n c [v0,v1,v2,v3,v4]):qF w (((((wr.setCell ⟨w.heap.size,0,none⟩ v0).setCell ⟨w.heap.size,1,none⟩ v1).setCell ⟨w.heap.size,2,none⟩ v2).setCell ⟨w.heap.size,3,none⟩ v3).setCell ⟨w.heap.size,4,none⟩ v4) a s k n c [v0,v1,v2,v3,v4]:=
 ((((h.set 0 (by simp) v0).set 1 (by simp) v1).set 2 (by simp) v2).set 3 (by simp) v3).set 4 (by simp) v4
theorem pn (ch:UInt8)(a:Nat)(s:BA)(p n:Nat)(c:Int)(w:World)(hs:s.size≤4294967280)(h:DR w a s p n c)(b:Bool)(hb:Hid (ay ch ((bl s).drop p)=b)):
  Calls Tryz.prog 189 #[.pointer (some ⟨a,0,none⟩),.int .u8 ch.toNat] w fun e w'=>e=.returned (.bool b)∧DR w' a s (if b then p+1 else p) n c∧w.grownBy w' (some a):=by
 cases b with
 | true=>exact aJ ch a s p n c w hs h hb
 | false=>exact aC ch a s p n c w hs h hb
theorem Jf (t:du):t.right=true↔dy t.name=true∧(t.qual=[]∨cU t.qual=true)∧(t.archs.all fun a=>cU (bU a))=true∧(t.op=0∨cG 1 (bC t.ver)=0):=by
 unfold du.right;simp[and_assoc]
structure TB (w:World) (b:Nat) (v0 v1 v2 v3 v4:Value):Prop where
 c0:w.cell? ⟨b,0,none⟩=some v0
 c1:w.cell? ⟨b,1,none⟩=some v1
 c2:w.cell? ⟨b,2,none⟩=some v2
 c3:w.cell? ⟨b,3,none⟩=some v3
 c4:w.cell? ⟨b,4,none⟩=some v4
 f0:w.frozen? ⟨b,0,none⟩=false
 f1:w.frozen? ⟨b,1,none⟩=false
 f2:w.frozen? ⟨b,2,none⟩=false
 f3:w.frozen? ⟨b,3,none⟩=false
 f4:w.frozen? ⟨b,4,none⟩=false
theorem ax.five {w:World}{b:Nat}{v0 v1 v2 v3 v4:Value}(h:ax w b [v0,v1,v2,v3,v4]):TB w b v0 v1 v2 v3 v4:=
 ⟨h.cell 0 _ rfl,h.cell 1 _ rfl,h.cell 2 _ rfl,h.cell 3 _ rfl,h.cell 4 _ rfl,h.free 0 (by simp),h.free 1 (by simp),h.free 2 (by simp),h.free 3 (by simp),h.free 4 (by simp)⟩
theorem Jg {l v r:LU}{op:Nat}(h:uK l=some (op,v,r)):op≠0:=by
 unfold uK bV at h
 split at h
 ·cases h
 ·rename_i h0
  split at h
  ·cases h
  ·unfold jM at h
   split at h
   ·injection h with h;injection h with h;subst h;exact h0
   ·cases h
theorem iV.no {r:Option (du×LU)}{a:Nat}{s:BA}{p n p' n':Nat}{c c':Int}{w w':World}{T:cA}{e:Ending}(hr:r=none)(hg:w.grownBy w' (some a))(h:DR w' a s p' n' c')(he:e=.returned (.tuple #[T.val,.bool false])):iV r a s p n c w e w':=by
 subst hr;exact⟨hg,T,p',n',c',he,h⟩
theorem FY (a:Nat)(s:BA)(p n:Nat)(c:Int)(w:World)(hs:s.size≤4294967280)(hG:pm a w)(h:DR w a s p n c):
  Calls Tryz.prog 220 #[.pointer (some ⟨a,0,none⟩)] w (iV (fN ((bl s).drop p)) a s p n c w):=by
 have HG:=ae hG
 obtain⟨f,y,k⟩:=(h.alloc (.cells #[.string ⟨#[]⟩,.int .i64 0,.string ⟨#[]⟩,.string ⟨#[]⟩,.slice none 0 0] 220)).cells
 have c1:=k.c1
 have T0:Hid (qF w (w.alloc (.cells #[.string ⟨#[]⟩,.int .i64 0,.string ⟨#[]⟩,.string ⟨#[]⟩,.slice none 0 0] 220)) a s p n c [.string ⟨#[]⟩,.int .i64 0,.string ⟨#[]⟩,.string ⟨#[]⟩,.slice none 0 0]):=qF.start h _ _
 have hnp:=h.nle
 have hps:=h.le
 clear hG h k
 generalize hRR:fN ((bl s).drop p)=RR
 cases ht:lf oo ((bl s).drop p) with
 | none=>
  have EN:Hid (RR=none):=by show _=_;rw[←hRR];exact Ng ht
  have HT:=ae ht
  clear ht hRR
  go_enter Tryz.func220,Tryz.ntmps220
  go_wp2_with fail
  refine(cL zn a s p n c _ hs T0.out.dr HT).mono ?_;rintro e w1 ⟨rfl,hd,hg⟩
  have T1:=ae (T0.out.step hg hd);clear hd hg c1 T0
  obtain⟨z0,z1,z2,z3,z4,y0,y1,y2,y3,y4⟩:=T1.out.tb.five
  go_wp2_with fail
  refine bodyPost_ret (v:=.tuple #[.agg #[.string ⟨#[]⟩,.int .i64 0,.string ⟨#[]⟩,.string ⟨#[]⟩,.slice none 0 0],.bool false]) (by simp(maxDischargeDepth:=6) [results,Tryz.results220,go_sem,z0,z1,z2,z3,z4]) rfl ?_
  have TZ:=qF.same (T1.out.set 0 (by simp) (.string ⟨#[]⟩))
  exact iV.no (T:=⟨⟨#[]⟩,0,⟨#[]⟩,⟨#[]⟩,none,0,[]⟩) EN.out TZ.gr TZ.dr rfl
 | some x=>
 obtain⟨nm,r⟩:=x
 have HT0:=ae ht
 obtain⟨t1,t2,t3,t4⟩:=dD hps ht
 obtain⟨p1,hp1⟩:∃ p1,p+nm.length=p1:=⟨_,rfl⟩
 have hU:=ct zn nm r a s p n c _ hs T0.out.dr HT0
 rw[hp1] at hU t2 t4
 have PP:Hid (p<p1):=by show _<_;omega
 have DR1:Hid ((bl s).drop p1=r):=t2
 have hn1:n<p1:=by omega
 have hnz:(bC nm).size≤4294967280:=by rw[bS];omega
 have HR:=ae hRR
 clear ht t1 t2 t3 hp1 hRR
 go_enter Tryz.func220,Tryz.ntmps220
 go_wp2_with fail
 refine hU.mono ?_;rintro e w1 ⟨rfl,hd,hg⟩
 have T1:=ae (T0.out.step hg hd);clear hd hg c1 T0 hU
 obtain⟨z0,z1,z2,z3,z4,y0,y1,y2,y3,y4⟩:=T1.out.tb.five
 have T2:Hid (qF w (w1.setCell ⟨w.heap.size,0,none⟩ (.string (bC nm))) a s p1 n c [.string (bC nm),.int .i64 0,.string ⟨#[]⟩,.string ⟨#[]⟩,.slice none 0 0]):=T1.out.set 0 (by simp) (.string (bC nm))
 obtain⟨f2,y2',k2⟩:=T2.out.dr.cells
 have c2:=k2.c2
 have fc2:=k2.f2
 clear k2 z1 z2 z3 z4 y1 y2 y3 y4
 have T3:Hid (qF w ((w1.setCell ⟨w.heap.size,0,none⟩ (.string (bC nm))).setCell ⟨a,2,none⟩ (.int .i64 ((n:Int)+1))) a s p1 (n+1) c [.string (bC nm),.int .i64 0,.string ⟨#[]⟩,.string ⟨#[]⟩,.slice none 0 0]):=T2.out.step (aN _) (T2.out.dr.count hn1)
 obtain⟨f3,y3',k3⟩:=T3.out.dr.cells
 have d2:=k3.c2
 clear k3
 go_upto_if 30 with(fail)
 clear z0 y0 c2 fc2 d2 T1 T2
 go_cut [] (fun wx=>∃ c1:Int,Hid (qF w wx a s p1 (n+1) c1 [.string (bC nm),.int .i64 0,.string ⟨#[]⟩,.string ⟨#[]⟩,.slice none 0 0])∧Hid (c1=0↔c=0∧n+1≤64))
 case first=>
  by_cases h64:64<n+1
  ·have e64:decide ((64:Int)<(n:Int)+1)=true:=dT (by omega)
   have NC:Hid (jo c 4=0↔c=0∧n+1≤64):=by show _↔_;rw[eF];constructor<;>intro h<;>omega
   go_wp2_with fail
   refine(fu _ 4 a s p1 (n+1) c _ T3.out.dr).mono ?_;rintro e w3 ⟨rfl,hd,hg⟩
   have T4:=ae (T3.out.step hg hd);clear hd hg
   go_wp2_with fail
   go_meet
   exact⟨_,T4,NC⟩
  ·have e64:decide ((64:Int)<(n:Int)+1)=false:=dF (by omega)
   have NC:Hid (c=0↔c=0∧n+1≤64):=by show _↔_;constructor<;>intro h<;>omega
   go_wp2_with fail
   go_meet
   exact⟨_,T3,NC⟩
 case rest=>
 obtain⟨c1,T4,C1⟩:=hcut
 clear T3
 have z0:=T4.out.tb.five.c0
 have hN:=lM (bC nm) wc (by omega)
 rw[eh] at hN
 obtain⟨bn,hbn⟩:∃ bn,dy nm=bn:=⟨_,rfl⟩
 rw[hbn] at hN
 have HBN:=ae hbn
 clear hbn
 go_wp2_with fail
 refine hN.mono ?_;rintro e w' ⟨rfl,rfl⟩
 clear hN
 go_upto_if 38 with(fail)
 clear z0
 go_cut [] (fun wx=>∃ c2:Int,Hid (qF w wx a s p1 (n+1) c2 [.string (bC nm),.int .i64 0,.string ⟨#[]⟩,.string ⟨#[]⟩,.slice none 0 0])∧Hid (c2=0↔c1=0∧dy nm=true))
 case first=>
  cases bn with
  | true=>
   go_wp2_with fail
   go_meet
   exact⟨c1,T4,by simp[Hid,HBN.out]⟩
  | false=>
   have NC:Hid (jo c1 10=0↔c1=0∧dy nm=true):=by show _↔_;rw[eF,HBN.out];simp
   go_wp2_with fail
   refine(fu _ 10 a s p1 (n+1) c1 _ T4.out.dr).mono ?_;rintro e w3 ⟨rfl,hd,hg⟩
   have T5:=ae (T4.out.step hg hd);clear hd hg
   go_wp2_with fail
   go_meet
   exact⟨_,T5,NC⟩
 case rest=>
 obtain⟨c2,T5,C2⟩:=hcut
 clear T4 HBN
 obtain⟨b,hb⟩:∃ b,ay 58 ((bl s).drop p1)=b:=⟨_,rfl⟩
 have HB:=ae hb
 clear hb
 go_wp2_with fail
 refine(pn 58 a s p1 (n+1) c2 _ hs T5.out.dr b HB).mono ?_;rintro e w5 ⟨rfl,hd,hg⟩
 have T6:=ae (T5.out.step hg hd);clear hd hg T5
 go_upto_if 43 with(fail)
 go_cut [3] (fun v wx=>∃ (Q:BA) (p3:Nat) (c3:Int),v=.bool true∧Hid (qF w wx a s p3 (n+1) c3 [.string (bC nm),.int .i64 0,.string ⟨#[]⟩,.string Q,.slice none 0 0])∧Hid (jN r=some (bl Q,(bl s).drop p3))∧Hid (p1≤p3)∧Hid (c3=0↔c2=0∧(bl Q=[]∨cU (bl Q)=true)))
 case first=>
  cases b with
  | false=>
   have EQ:Hid (jN r=some (bl ⟨#[]⟩,(bl s).drop p1)):=by show _=_;rw[DR1.out];exact Jd (by rw[←DR1.out];exact HB.out)
   go_wp2_with fail
   go_meet
   exact⟨⟨#[]⟩,p1,c2,rfl,T6.out,EQ,lr,by simp[Hid];intro _;left;rfl⟩
  | true=>
   cases ht:lf ik ((bl s).drop (p1+1)) with
   | none=>
    have HT:=ae ht
    have EN:Hid (RR=none):=by show _=_;rw[←HR.out];exact Nh HT0.out (by rw[vS (by rw[←DR1.out];exact HB.out),←DR1.out,List.drop_drop];exact ht)
    clear ht
    go_wp2_with fail
    refine(hQ a s (p1+1) (n+1) c2 _ hs T6.out.dr HT).mono ?_;rintro e w6 ⟨rfl,hd,hg⟩
    have T7:=ae (T6.out.step hg hd);clear hd hg
    obtain⟨z0,z1,z2,z3,z4,y0,y1,y2,y3,y4⟩:=T7.out.tb.five
    go_wp2_with fail
    refine bodyPost_ret (v:=.tuple #[.agg #[.string (bC nm),.int .i64 0,.string ⟨#[]⟩,.string ⟨#[]⟩,.slice none 0 0],.bool false]) (by simp(maxDischargeDepth:=6) [results,Tryz.results220,go_sem,z0,z1,z2,z3,z4]) rfl ?_
    have TZ:=qF.same (T7.out.set 3 (by simp) (.string ⟨#[]⟩))
    exact iV.no (T:=⟨bC nm,0,⟨#[]⟩,⟨#[]⟩,none,0,[]⟩) EN.out TZ.gr TZ.dr rfl
   | some x=>
    obtain⟨q,r1⟩:=x
    have HT:=ae ht
    have hp2:=T6.out.dr.le
    obtain⟨t1,t2,t3,t4⟩:=dD (p:=p1+1) hp2 ht
    have EQ:Hid (jN r=some (bl (bC q),(bl s).drop (p1+1+q.length))):=by show _=_;rw[vS (by rw[←DR1.out];exact HB.out),←DR1.out,List.drop_drop,eh,t2];exact ht
    have Q0:Hid (q≠[]):=by intro e;rw[e] at t3;simp at t3
    clear ht t1 t2 t3 hp2
    go_wp2_with fail
    refine(ib q r1 a s (p1+1) (n+1) c2 _ hs T6.out.dr HT).mono ?_;rintro e w6 ⟨rfl,⟨c3,hd,hcc⟩,hg⟩
    have T7:=ae (T6.out.step hg hd);clear hd hg
    have HCC:=ae hcc
    clear hcc
    obtain⟨z0,z1,z2,z3,z4,y0,y1,y2,y3,y4⟩:=T7.out.tb.five
    go_wp2_with fail
    go_meet
    refine⟨bC q,p1+1+q.length,c3,rfl,T7.out.set 3 (by simp) (.string (bC q)),EQ,(by show _≤_;omega),?_⟩
    have h1:=HCC.out;have h2:=Q0.out
    show _↔_
    rw[eh];simp[h1,h2]
 case rest=>
 obtain⟨Q,p3,c3,rfl,T7,EQ,P3,C3⟩:=hcut
 clear T6 HB
 obtain⟨p4,hp4⟩:∃ p4,p3+aA aO ((bl s).drop p3)=p4:=⟨_,rfl⟩
 have SK4:Hid (aH ((bl s).drop p3)=(bl s).drop p4):=by show _=_;rw[bK,hp4]
 have P4:Hid (p1≤p4):=by have:=P3.out;show _≤_;omega
 have hB4:=aF a s p3 (n+1) c3 wc hs T7.out.dr
 rw[hp4] at hB4
 clear hp4
 obtain⟨b,hb⟩:∃ b,ay 40 ((bl s).drop p4)=b:=⟨_,rfl⟩
 have HB:=ae hb
 clear hb
 go_wp2_with fail
 refine hB4.mono ?_;rintro e w7 ⟨rfl,hd,hg⟩
 have T8:=ae (T7.out.step hg hd);clear hd hg hB4 T7
 go_wp2_with fail
 refine(pn 40 a s p4 (n+1) c3 _ hs T8.out.dr b HB).mono ?_;rintro e w8 ⟨rfl,hd,hg⟩
 have T9:=ae (T8.out.step hg hd);clear hd hg T8
 go_upto_if 56 with(fail)
 go_cut [3] (fun v wx=>∃ (op:Nat) (V:BA) (p5:Nat) (c5:Int),v=.bool true∧Hid (qF w wx a s p5 (n+1) c5 [.string (bC nm),.int .i64 op,.string V,.string Q,.slice none 0 0])∧Hid (jn ((bl s).drop p4)=some (op,bl V,(bl s).drop p5))∧Hid (p4≤p5)∧Hid (c5=0↔c3=0∧(op=0∨cG 1 V=0)))
 case first=>
  cases b with
  | false=>
   have ER:Hid (jn ((bl s).drop p4)=some (0,bl ⟨#[]⟩,(bl s).drop p4)):=Je HB.out
   go_wp2_with fail
   go_meet
   exact⟨0,⟨#[]⟩,p4,c3,rfl,T9.out,ER,lr,by simp[Hid]⟩
  | true=>
   have ER:Hid (jn ((bl s).drop p4)=uK ((bl s).drop (p4+1))):=by show _=_;rw[FW HB.out,List.drop_drop]
   go_wp2_with fail
   refine(uQ a s (p4+1) (n+1) c3 _ hs (HG.out.kept T9.out.gr) T9.out.dr).mono ?_;rintro e w9 ⟨hg,hpost⟩
   cases hr:uK ((bl s).drop (p4+1)) with
   | none=>
    rw[hr] at hpost
    obtain⟨rfl,p',c',hd⟩:=hpost
    have T10:=ae (T9.out.step hg hd);clear hd hg
    have EN:Hid (RR=none):=by show _=_;rw[←HR.out];exact Ni HT0.out EQ.out (by rw[SK4.out,ER.out,hr])
    clear hr
    obtain⟨z0,z1,z2,z3,z4,y0,y1,y2,y3,y4⟩:=T10.out.tb.five
    go_wp2_with fail
    refine bodyPost_ret (v:=.tuple #[.agg #[.string (bC nm),.int .i64 0,.string ⟨#[]⟩,.string Q,.slice none 0 0],.bool false]) (by simp(maxDischargeDepth:=6) [results,Tryz.results220,go_sem,z0,z1,z2,z3,z4]) rfl ?_
    have TZ:=qF.same ((T10.out.set 1 (by simp) (.int .i64 0)).set 2 (by simp) (.string ⟨#[]⟩))
    exact iV.no (T:=⟨bC nm,0,⟨#[]⟩,Q,none,0,[]⟩) EN.out TZ.gr TZ.dr rfl
   | some x=>
    obtain⟨op,v,r2⟩:=x
    rw[hr] at hpost
    obtain⟨rfl,p5,c5,hp5,hd,hdr,hcc⟩:=hpost
    have T10:=ae (T9.out.step hg hd);clear hd hg
    have ER2:Hid (jn ((bl s).drop p4)=some (op,bl (bC v),(bl s).drop p5)):=by show _=_;rw[ER.out,hr,eh,hdr]
    have op0:Hid (op≠0):=Jg hr
    have HCC:=ae hcc
    have P5:Hid (p4≤p5):=by show _≤_;omega
    clear hr hdr hcc hp5
    obtain⟨z0,z1,z2,z3,z4,y0,y1,y2,y3,y4⟩:=T10.out.tb.five
    go_wp2_with fail
    go_meet
    refine⟨op,bC v,p5,c5,rfl,(T10.out.set 1 (by simp) (.int .i64 op)).set 2 (by simp) (.string (bC v)),ER2,P5,?_⟩
    have h1:=HCC.out;have h2:=op0.out
    show _↔_
    simp[h1,h2]
 case rest=>
 obtain⟨op,V,p5,c5,rfl,T10,ER,P5,C5⟩:=hcut
 clear T9 HB
 obtain⟨b,hb⟩:∃ b,ay 91 ((bl s).drop p5)=b:=⟨_,rfl⟩
 have HB:=ae hb
 clear hb
 go_wp2_with fail
 refine(pn 91 a s p5 (n+1) c5 _ hs T10.out.dr b HB).mono ?_;rintro e w10 ⟨rfl,hd,hg⟩
 have T11:=ae (T10.out.step hg hd);clear hd hg T10
 go_upto_if 71 with(fail)
 go_cut [3] (fun v wx=>∃ (A:OA) (xs:List BA) (cc p6:Nat) (c6:Int),v=.bool true∧Hid (qF w wx a s p6 (n+1) c6 [.string (bC nm),.int .i64 op,.string V,.string Q,.slice A xs.length cc])∧Hid (wx.ownsRow (w.heap.size+1) 9 1 (.slice A xs.length cc) xs.length (az xs))∧Hid (gZ ((bl s).drop p5)=some (xs.map bl,(bl s).drop p6))∧Hid (p5≤p6)∧Hid (c6=0↔c5=0∧((xs.map bl).all fun x=>cU (bU x))=true))
 case first=>
  cases b with
  | false=>
   have EA:Hid (gZ ((bl s).drop p5)=some (([]:List BA).map bl,(bl s).drop p5)):=FX HB.out
   go_wp2_with fail
   go_meet
   exact⟨none,[],0,p5,c5,rfl,T11.out,World.ownsRow_nil _ _ _ _,EA,lr,by simp[Hid]⟩
  | true=>
   have EA:Hid (gZ ((bl s).drop p5)=eE (((bl s).drop p5).length+1) (aH ((bl s).drop (p5+1)))):=by show _=_;rw[Cj HB.out,List.drop_drop]
   have HF:Hid (s.size-(p5+1)<((bl s).drop p5).length+1):=by show _<_;rw[List.length_drop,ag];omega
   have hz10:w.heap.size+1≤w10.heap.size:=T11.out.tb.sz
   go_wp2_with fail
   refine(Ci _ a s (p5+1) (n+1) c5 _ hs HF.out T11.out.dr).mono ?_;rintro e w11 hpost
   cases hr:eE (((bl s).drop p5).length+1) (aH ((bl s).drop (p5+1))) with
   | none=>
    rw[hr] at hpost
    obtain⟨hg,rfl,p',c',hd⟩:=hpost
    have T12:=ae (T11.out.step hg hd);clear hd hg
    have EN:Hid (RR=none):=by show _=_;rw[←HR.out];exact Nj HT0.out EQ.out (by rw[SK4.out];exact ER.out) (by rw[EA.out,hr])
    clear hr
    obtain⟨z0,z1,z2,z3,z4,y0,y1,y2,y3,y4⟩:=T12.out.tb.five
    go_wp2_with fail
    refine bodyPost_ret (v:=.tuple #[.agg #[.string (bC nm),.int .i64 op,.string V,.string Q,.slice none 0 0],.bool false]) (by simp(maxDischargeDepth:=6) [results,Tryz.results220,go_sem,z0,z1,z2,z3,z4]) rfl ?_
    have TZ:=qF.same (T12.out.set 4 (by simp) (.slice none 0 0))
    exact iV.no (T:=⟨bC nm,op,V,Q,none,0,[]⟩) EN.out TZ.gr TZ.dr rfl
   | some x=>
    obtain⟨L,r3⟩:=x
    rw[hr] at hpost
    obtain⟨A,m,cc,xs,p6,c6,rfl,hS,rfl,hp6,hdr,hcc⟩:=hpost
    obtain rfl:=hS.len
    have T12:=ae (T11.out.step hS.gr hS.dr)
    have R12:=ae (dV hS.row hz10)
    have EA2:Hid (gZ ((bl s).drop p5)=some (xs.map bl,(bl s).drop p6)):=by show _=_;rw[EA.out,hr,hdr]
    have HCC:=ae hcc
    have P6:Hid (p5≤p6):=by show _≤_;omega
    clear hr hdr hcc hp6 hS
    obtain⟨z0,z1,z2,z3,z4,y0,y1,y2,y3,y4⟩:=T12.out.tb.five
    go_wp2_with fail
    go_meet
    exact⟨A,xs,cc,p6,c6,rfl,T12.out.set 4 (by simp) (.slice A xs.length cc),fP R12.out (Nat.lt_succ_self _),EA2,P6,HCC.out⟩
 case rest=>
 obtain⟨A,xs,cc,p6,c6,rfl,T12,R12,EA,P6,C6⟩:=hcut
 clear T11 HB
 have EN:Hid (RR=some (⟨nm,bl Q,op,bl V,xs.map bl⟩,(bl s).drop p6)):=by show _=_;rw[←HR.out];exact Nk HT0.out EQ.out (by rw[SK4.out];exact ER.out) EA.out
 have CF:Hid (c6=0↔c=0∧du.right ⟨nm,bl Q,op,bl V,xs.map bl⟩=true∧n+1≤64):=by
  have h1:=C1.out;have h2:=C2.out;have h3:=C3.out;have h5:=C5.out;have h6:=C6.out
  show _↔_
  rw[Jf,h6,h5,h3,h2,h1]
  simp only[mA]
  constructor
  ·rintro⟨⟨⟨⟨⟨a1,a2⟩,a3⟩,a4⟩,a5⟩,a6⟩;exact⟨a1,⟨a3,a4,a6,a5⟩,a2⟩
  ·rintro⟨a1,⟨a3,a4,a6,a5⟩,a2⟩;exact⟨⟨⟨⟨⟨a1,a2⟩,a3⟩,a4⟩,a5⟩,a6⟩
 have PF:Hid (p<p6):=by have h1:=PP.out;have h2:=P4.out;have h3:=P5.out;have h4:=P6.out;show _<_;omega
 clear C1 C2 C3 C5 C6
 obtain⟨z0,z1,z2,z3,z4,y0,y1,y2,y3,y4⟩:=T12.out.tb.five
 go_wp2_with fail
 refine bodyPost_ret (v:=.tuple #[.agg #[.string (bC nm),.int .i64 op,.string V,.string Q,.slice A xs.length cc],.bool true]) (by simp(maxDischargeDepth:=6) [results,Tryz.results220,go_sem,z0,z1,z2,z3,z4]) rfl ?_
 have TZ:=qF.same T12.out
 have RZ:=fP (j:=4) (v:=.slice A xs.length cc) (fP (j:=3) (v:=.string Q) (fP (j:=2) (v:=.string V) (fP (j:=1) (v:=.int .i64 op) (fP (j:=0) (v:=.string (bC nm)) R12.out (Nat.lt_succ_self _)) (Nat.lt_succ_self _)) (Nat.lt_succ_self _)) (Nat.lt_succ_self _)) (Nat.lt_succ_self _)
 rw[EN.out]
 refine⟨TZ.gr,⟨bC nm,op,V,Q,A,cc,xs⟩,p6,c6,rfl,by simp only[cA.pl,eh],dV RZ (Nat.le_succ _),TZ.dr,PF.out,rfl,CF.out⟩
end
end Go.Proofs.YtaohgmcbpafdeaaGreatDoor
