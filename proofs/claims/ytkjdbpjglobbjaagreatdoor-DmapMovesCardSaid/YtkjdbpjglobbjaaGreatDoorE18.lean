/- A part of the proof of a law on dependencies in three formats. No condition. -/
import Derived.Test.YtkjdbpjglobbjaaGreatDoorE13
import Derived.Test.YtkjdbpjglobbjaaGreatDoorE17
set_option maxRecDepth 100000
set_option maxHeartbeats 20000000
set_option linter.unusedVariables false
set_option linter.unusedSimpArgs false
namespace Go.Proofs.YtkjdbpjglobbjaaGreatDoor
theorem AE {n:Nat}(h:n≤999999999):(aC n).length≤9:=lR 8 n (by omega)
theorem Ff {fmt:Int}{c:aT}(ok:c.ok){x:UInt8}(h:x∈bi fmt c):aD x=true∨be x=true∨x=46∨x=jj fmt:=by
 unfold bi at h
 rcases List.mem_append.1 h with h | h
 ·rcases sN 46 _ x h with e | ⟨l,hl,hx⟩
  ·exact .inr (.inr (.inl e))
  ·obtain⟨n,_,rfl⟩:=List.mem_map.1 hl
   exact .inl (List.all_eq_true.1 (cG n) x hx)
 ·rcases List.mem_append.1 h with h | h
  ·rcases ok.lt with e | ⟨b,e,hb⟩
   ·rw[e] at h;simp at h
   ·rw[e] at h;rw[List.mem_singleton.1 h];exact .inr (.inl hb)
  ·unfold bM at h
   split at h
   ·simp at h
   ·rcases List.mem_cons.1 h with e | h
    ·exact .inr (.inr (.inr e))
    ·rcases List.mem_append.1 h with h | h
     ·exact .inr (.inl (List.all_eq_true.1 (J4 ok) x h))
     ·exact .inl (List.all_eq_true.1 (cG _) x h)
theorem Ou {fmt:Int}{c:aT}(ok:c.ok){x:UInt8}(h:x∈aN fmt c):aD x=true∨be x=true∨x=46∨x=jj fmt∨x=58∨x=45:=by
 unfold aN at h
 rcases List.mem_append.1 h with h | h
 ·unfold iE at h
  split at h
  ·simp at h
  ·rcases List.mem_append.1 h with h | h
   ·exact .inl (List.all_eq_true.1 (cG _) x h)
   ·exact .inr (.inr (.inr (.inr (.inl (List.mem_singleton.1 h)))))
 ·rcases List.mem_append.1 h with h | h
  ·rcases Ff ok h with h | h | h | h
   ·exact .inl h
   ·exact .inr (.inl h)
   ·exact .inr (.inr (.inl h))
   ·exact .inr (.inr (.inr (.inl h)))
  ·rcases List.mem_append.1 h with h | h
   ·unfold bK at h
    split at h
    ·rcases List.mem_cons.1 h with h | h
     ·exact .inr (.inr (.inr (.inr (.inr h))))
     ·rw[List.mem_singleton.1 h];exact .inr (.inl (by decide))
    ·exact .inr (.inr (.inr (.inr (.inr (List.mem_singleton.1 h)))))
   ·exact .inl (List.all_eq_true.1 (cG _) x h)
theorem fP (n:Nat):∃ d r,aC n=d::r∧aD d=true:=by
 cases e:aC n with
 | nil=>exact absurd e (iI n)
 | cons d r=>exact⟨d,r,rfl,jx n [] d (by rw[e];rfl)⟩
theorem Lz {c:aT}(h:c.nums≠[]):∃ d r,fC c=d::r∧aD d=true:=by
 unfold fC
 match hn:c.nums with
 | []=>exact absurd hn h
 | [n]=>exact fP n
 | n::m::L=>
  obtain⟨d,r,e,hd⟩:=fP n
  exact⟨d,r++46::bE 46 ((m::L).map aC),by simp only[List.map_cons,bE,e];rfl,hd⟩
theorem sT {fmt:Int}{c:aT}(ok:c.ok):∃ d r,bi fmt c=d::r∧aD d=true:=by
 obtain⟨d,r,e,hd⟩:=Lz ok.nums
 exact⟨d,r++(c.lt++bM fmt c),by unfold bi;rw[e];rfl,hd⟩
theorem LC {fmt:Int}{c:aT}(ok:c.ok):∃ d r,aN fmt c=d::r∧aD d=true:=by
 unfold aN iE
 split
 ·obtain⟨d,r,e,hd⟩:=sT (fmt:=fmt) ok
  exact⟨d,r++(bK fmt++aC c.rev),by rw[e];rfl,hd⟩
 ·obtain⟨d,r,e,hd⟩:=fP c.ep
  exact⟨d,r++[58]++(bi fmt c++(bK fmt++aC c.rev)),by rw[e];simp,hd⟩
theorem AF (o:LU)(n:Nat):aI o (aC n)=true:=by
 obtain⟨d,r,e,_⟩:=fP n
 have h:=cG n
 unfold aI
 rw[Bool.and_eq_true]
 refine⟨by rw[e];rfl,List.all_eq_true.2 fun x hx=>?_⟩
 unfold kx;rw[List.all_eq_true.1 h x hx];simp
theorem wt {fmt:Int}{c:aT}(ok:c.ok){o:LU}(h1:o.contains 46=true)(h2:o.contains (jj fmt)=true):aI o (bi fmt c)=true:=by
 obtain⟨d,r,e,_⟩:=sT (fmt:=fmt) ok
 unfold aI
 rw[Bool.and_eq_true]
 refine⟨by rw[e];rfl,List.all_eq_true.2 fun x hx=>?_⟩
 unfold kx cD
 rcases Ff ok hx with h | h | h | h
 ·rw[h];simp
 ·rw[h];simp
 ·rw[h,h1];simp
 ·rw[h,h2];simp
theorem CV {fmt:Int}{c:aT}(ok:c.ok):ig (bi fmt c)=true:=by
 obtain⟨d,r,e,hd⟩:=sT (fmt:=fmt) ok
 rw[e];exact hd
theorem Fg {c:aT}(ok:c.ok):∃ x,fg (aN 1 c)=some x:=by
 have hd:bK 1=[45]:=rfl
 have hrest:gW (bi 1 c++(bK 1++aC c.rev))=some (bi 1 c,aC c.rev):=by
  rw[hd,List.singleton_append]
  unfold gW
  rw[ou _ _ (fU _ Tc)]
  have e1:(bi 1 c++45::aC c.rev).drop ((bi 1 c).length+1)=aC c.rev:=by simp
  have e2:(bi 1 c++45::aC c.rev).take (bi 1 c).length=bi 1 c:=by simp
  simp only
  rw[e1,e2,if_pos ⟨AF _ _,by rw[wt ok (by decide) (by decide),CV ok];rfl⟩]
 have h58:(58:UInt8) ∉ bi 1 c++(bK 1++aC c.rev):=by
  rw[List.mem_append,List.mem_append]
  rintro(e | e | e)
  ·exact ro ok e
  ·rw[hd] at e;simp at e
  ·exact fU _ rn e
 unfold fg
 by_cases he:c.ep=0
 ·have e1:iE 1 c=[]:=by unfold iE;rw[if_pos (.inr he)]
  have ho:cE (aN 1 c)=some ([],bi 1 c++(bK 1++aC c.rev)):=by
   unfold cE aN;rw[e1,List.nil_append,vU h58];simp
  rw[ho]
  simp only
  rw[hrest];exact⟨_,rfl⟩
 ·have e1:iE 1 c=aC c.ep++[58]:=by unfold iE;rw[if_neg (by simp[he])]
  have ho:cE (aN 1 c)=some (aC c.ep,bi 1 c++(bK 1++aC c.rev)):=by
   unfold cE aN
   rw[e1,List.append_assoc,List.singleton_append,mB _ (fU _ rn)]
   simp only[if_true]
   rw[if_pos ⟨oq _,AE ok.ep⟩]
  rw[ho]
  simp only
  rw[hrest];exact⟨_,rfl⟩
theorem wu {n:Nat}(h:n≠0):cQ (aC n)=false:=by
 by_cases h2:n<10
 ·rw[cK h2];rfl
 ·have:=sL n (by omega)
  match e:aC n with
  | []=>rfl
  | [a]=>rfl
  | a::b::r=>rw[e] at this;simp only[List.head?_cons,ne_eq,Option.some.injEq] at this;simpa [cQ] using this
theorem Fh {c:aT}(ok:c.ok):∃ x,fh (aN 2 c)=some x:=by
 have hd:bK 2=[45]:=rfl
 have hrest:iJ (bi 2 c++(bK 2++aC c.rev))=some (bi 2 c,aC c.rev):=by
  rw[hd,List.singleton_append]
  unfold iJ
  rw[mB _ (J6 ok)]
  simp only
  rw[if_pos (by rw[wt ok (by decide) (by decide),AF];rfl)]
 have h58:(58:UInt8) ∉ bi 2 c++(bK 2++aC c.rev):=by
  rw[List.mem_append,List.mem_append]
  rintro(e | e | e)
  ·exact ro ok e
  ·rw[hd] at e;simp at e
  ·exact fU _ rn e
 unfold fh
 by_cases he:c.ep=0
 ·have e1:iE 2 c=[]:=by unfold iE;rw[if_pos (.inr he)]
  have ho:gN (aN 2 c)=some ([],bi 2 c++(bK 2++aC c.rev)):=by
   unfold gN aN;rw[e1,List.nil_append,vU h58];simp
  rw[ho]
  simp only
  rw[hrest];exact⟨_,rfl⟩
 ·have e1:iE 2 c=aC c.ep++[58]:=by unfold iE;rw[if_neg (by simp[he])]
  have ho:gN (aN 2 c)=some (aC c.ep,bi 2 c++(bK 2++aC c.rev)):=by
   unfold gN aN
   rw[e1,List.append_assoc,List.singleton_append,mB _ (fU _ rn)]
   simp only[if_true]
   rw[if_pos ⟨oq _,AE ok.ep,wu he⟩]
  rw[ho]
  simp only
  rw[hrest];exact⟨_,rfl⟩
theorem kG {fmt:Int}(hf:fmt=1∨fmt=2∨fmt=3){c:aT}(h:ct fmt c=true):aV fmt (bz (aN fmt c))=0:=by
 obtain⟨ok,_⟩:=km h
 have hs:(aN fmt c).length≤64:=by unfold ct at h;simp only[Bool.and_eq_true,decide_eq_true_eq] at h;exact h.2.2
 have:∃ x,bC fmt (aN fmt c)=some x:=by
  rcases hf with rfl | rfl | rfl
  ·exact Fg ok
  ·exact Fh ok
  ·exact⟨_,Oh ok⟩
 obtain⟨x,hx⟩:=this
 unfold aV
 rw[if_neg (fun hn=>hn hf),if_neg (by rw[bQ];omega),cH,hx];rfl
theorem Ov {c:aT}(h:fV c=true):ct 1 c=true:=by
 have hs:=((lP c).1 h).short
 unfold ct
 rw[h,dF (by rintro⟨e,_⟩;omega),dT hs];rfl
theorem Ii {b:Int}(hb:b=1∨b=2∨b=3){v:BA}{t:LU}(h:trans 1 b v=(t,0)):
  ∃ c,ct b c=true∧t=aN b c∧aN 1 c=bl v∧aV 1 v=0∧lF 1 (bl v)=some c∧aV b (bz t)=0∧trans b 1 (bz t)=(bl v,0):=by
 unfold trans at h
 rw[if_neg (by rintro(x | x);exact x (.inl rfl);exact x hb)] at h
 by_cases hv:aV 1 v=0
 ·rw[if_neg (by simpa using hv)] at h
  cases hp:lF 1 (bl v) with
  | none=>rw[hp] at h;injection h with _ h;cases h
  | some c=>
   rw[hp] at h
   simp only at h
   unfold qi at h
   split at h
   ·rename_i hc
    injection h with h1 _
    obtain⟨hp1,hc1⟩:=ov hp
    have hv2:=kG hb hc
    refine⟨c,hc,h1.symm,hc1,hv,rfl,by rw[←h1];exact hv2,?_⟩
    have hs:=(cZ hb hv2).1
    rw[cH] at hs
    have hpc:=CT hb hs hc rfl
    unfold trans
    rw[if_neg (by rintro(x | x);exact x hb;exact x (.inl rfl)),←h1,if_neg (by rw[hv2];simp),cH,hpc]
    simp only
    unfold qi
    rw[if_pos (by unfold ct at hc;rw[Bool.and_eq_true] at hc;exact Ov hc.1),hc1]
   ·injection h with _ h;cases h
 ·rw[if_pos hv] at h
  injection h with _ h
  exact absurd h hv
section
open Go.RowKit Go.Deep
theorem iz (x e:Int)(a:Nat)(s:BA)(p n:Nat)(c:Int)(w:World)(h:DR w a s p n c):
  Calls Tryz.prog 206 #[.pointer (some ⟨a,0,none⟩),.int .i64 x,.int .i64 e] w fun en w'=>en=.returned (.tuple #[])∧DR w' a s p n (lj c e)∧w.grownBy w' (some a):=by
 obtain⟨f,y,k⟩:=h.cells
 have HD:=ae h;clear h
 obtain⟨c0,c1,c2,c3,c4,c5,f0,f1,f2,f3,f4,f5⟩:=k
 clear c0 c1 c2 f0 f1 f2
 by_cases hc:c=0
 ·subst hc
  by_cases he:e=0
  ·subst he
   go_enter Tryz.func206,Tryz.ntmps206
   go_wp2_with fail
   go_end0
   exact⟨rfl,HD.out,World.grownBy.refl _ _⟩
  ·have he1:(e != 0)=true:=by simp[he]
   have HN:Hid (lj 0 e=e):=by simp[Hid,lj]
   clear he
   go_enter Tryz.func206,Tryz.ntmps206
   go_wp2_with fail
   go_end0
   exact⟨rfl,by rw[HN.out];exact HD.out.noted _ _ _,ap (ap (bN _) (bN _)) (bN _)⟩
 ·have hc1:(c==0)=false:=by simp[hc]
  have HN:Hid (lj c e=c):=by simp[Hid,lj,hc]
  clear hc
  go_enter Tryz.func206,Tryz.ntmps206
  go_wp2_with fail
  go_end0
  exact⟨rfl,by rw[HN.out];exact HD.out,World.grownBy.refl _ _⟩
theorem aZ (ch:UInt8)(a:Nat)(s:BA)(p n:Nat)(c:Int)(w:World)(hs:s.size≤4294967280)(h:DR w a s p n c)(hh:Hid (aE ch ((bl s).drop p)=true)):
  Calls Tryz.prog 126 #[.pointer (some ⟨a,0,none⟩),.int .u8 ch.toNat] w fun e w'=>e=.returned (.bool true)∧DR w' a s (p+1) n c∧w.grownBy w' (some a):=by
 have hlt:p<s.size:=by
  rcases Nat.lt_or_ge p s.size with h1 | h1
  ·exact h1
  ·have:=hh.out;rw[Ow s p ch (by omega)] at this;cases this
 have e1:s[p]=ch:=by have:=hh.out;rw[Ka s p ch hlt] at this;simpa using this
 obtain⟨f,y,k⟩:=h.cells
 have HM:=ae (h.move (q:=p+1) (by omega) (by omega));clear h hh
 obtain⟨c0,c1,c2,c3,c4,c5,f0,f1,f2,f3,f4,f5⟩:=k
 clear c2 c3 c4 c5 f0 f2 f3 f4 f5
 go_enter Tryz.func126,Tryz.ntmps126
 go_wp2_with fail
 go_quiet (fail)
 go_wp2_with fail
 go_ret
 exact⟨rfl,HM.out.drewN _,ew (bN _) _⟩
theorem aM (ch:UInt8)(a:Nat)(s:BA)(p n:Nat)(c:Int)(w:World)(hs:s.size≤4294967280)(h:DR w a s p n c)(hh:Hid (aE ch ((bl s).drop p)=false)):
  Calls Tryz.prog 126 #[.pointer (some ⟨a,0,none⟩),.int .u8 ch.toNat] w fun e w'=>e=.returned (.bool false)∧DR w' a s p n c∧w.grownBy w' (some a):=by
 obtain⟨f,y,k⟩:=h.cells
 have HD:=ae h;clear h
 obtain⟨c0,c1,c2,c3,c4,c5,f0,f1,f2,f3,f4,f5⟩:=k
 clear c2 c3 c4 c5 f0 f2 f3 f4 f5
 by_cases hlt:p<s.size
 ·obtain⟨d,hd⟩:∃ d:UInt8,s[p]=d:=⟨_,rfl⟩
  have e1:((d.toNat:Int)==(ch.toNat:Int))=false:=by have:=hh.out;rw[Ka s p ch hlt,hd] at this;rw[dB];exact this
  clear hh
  go_enter Tryz.func126,Tryz.ntmps126
  go_wp2_with fail
  go_quiet (fail)
  go_wp2_with fail
  go_ret
  exact⟨rfl,HD.out.drewN _,ew (World.grownBy.refl _ _) _⟩
 ·have hlt2:decide (p<s.size)=false:=dF hlt
  clear hh
  go_enter Tryz.func126,Tryz.ntmps126
  go_wp2_with fail
  go_quiet (fail)
  go_wp2_with fail
  go_ret
  exact⟨rfl,HD.out.drewN _,ew (World.grownBy.refl _ _) _⟩
theorem aQ (a:Nat)(s:BA)(p n:Nat)(c:Int)(w:World)(hs:s.size≤4294967280)(h:DR w a s p n c):
  Calls Tryz.prog 124 #[.pointer (some ⟨a,0,none⟩)] w fun e w'=>e=.returned (.bool (aE 32 ((bl s).drop p)))∧DR w' a s (p+au bf ((bl s).drop p)) n c∧w.grownBy w' (some a):=by
 obtain⟨f,y,k⟩:=h.cells
 have c1:=k.c1
 have hp:=h.le
 have HD:=ae h;clear h k
 go_enter Tryz.func124,Tryz.ntmps124
 go_wp2_with fail
 go_loopw [] (fun wr=>∃ k:Nat,p≤k∧k≤s.size∧Hid (DR wr a s k n c)∧Hid (w.grownBy wr (some a))∧Hid (p+au bf ((bl s).drop p)=k+au bf ((bl s).drop k))) (fun wr=>s.size-C9 a wr)
 case atStart=>exact⟨p,lr,hp,HD,World.grownBy.refl _ _,rfl⟩
 case round=>
  clear c1
  obtain⟨k,hk1,hk2,HR,HG,HN⟩:=hrel
  obtain⟨f',y',K⟩:=HR.out.cells
  obtain⟨c0,c1,c2,c3,c4,c5,f0,f1,f2,f3,f4,f5⟩:=K
  clear c2 c3 c4 c5 f0 f2 f3 f4 f5
  have MA:=ae HR.out.at_
  by_cases hlt:k<s.size
  ·obtain⟨d,hd⟩:∃ d:UInt8,s[k]=d:=⟨_,rfl⟩
   by_cases h32:d.toNat=32
   ·have HN2:Hid (p+au bf ((bl s).drop p)=(k+1)+au bf ((bl s).drop (k+1))):=by
     have:=HN.out;rw[AJ s k hlt (by rw[hd];simp[bf];exact UInt8.toNat_inj.1 h32)] at this;show _=_;omega
    have HM:=ae (HR.out.move (q:=k+1) (by omega) (by omega))
    go_wp2_with fail
    go_quiet (fail)
    go_wp2_with fail
    go_roundw
    case rel=>exact⟨k+1,by omega,by omega,HM.out.drewN _,ew (ap HG.out (bN _)) _,HN2⟩
    case measure=>exact DR.dec (HM.out.drewN _) HR.out (Nat.lt_succ_self _)
   ·have h32':((d.toNat:Int)==32)=false:=by simp;omega
    have HE:Hid (p+au bf ((bl s).drop p)=k):=by
     have:=HN.out;rw[AK s k hlt (by rw[hd];simp[bf];intro e;exact h32 (by rw[e];rfl))] at this;exact this
    have HB:Hid (aE 32 ((bl s).drop p)=decide (p<k)):=by
     have:=HE.out;show _=_;rw[←ww];congr 1;simp;omega
    clear h32
    go_wp2_with fail
    go_quiet (fail)
    go_wp2_with fail
    go_ret
    exact⟨am (by rw[HB.out]),by rw[HE.out];exact HR.out.drewN _,ew HG.out _⟩
  ·have hlt2:decide (k<s.size)=false:=dF hlt
   have HE:Hid (p+au bf ((bl s).drop p)=k):=by
    have:=HN.out;rw[Fl _ s k hlt] at this;exact this
   have HB:Hid (aE 32 ((bl s).drop p)=decide (p<k)):=by
    have:=HE.out;show _=_;rw[←ww];congr 1;simp;omega
   go_wp2_with fail
   go_quiet (fail)
   go_wp2_with fail
   go_ret
   exact⟨am (by rw[HB.out]),by rw[HE.out];exact HR.out.drewN _,ew HG.out _⟩
def LP (q:UInt8→Bool)(a:Nat)(s:BA)(p n:Nat)(c:Int)(w:World)(e:Ending)(w':World):Prop:=
 e=.returned (.tuple #[.string (bz (((bl s).drop p).take (au q ((bl s).drop p)))),.bool (decide (0<au q ((bl s).drop p)))])∧DR w' a s (p+au q ((bl s).drop p)) n c∧w.grownBy w' (some a)
theorem Kb (q:UInt8→Bool)(s:BA)(p k:Nat)(h:p+au q ((bl s).drop p)=k):s.extract p k=bz (((bl s).drop p).take (au q ((bl s).drop p))):=by
 apply Az;rw[kv];congr 1;omega
theorem wD (E:BA)(q:UInt8→Bool)(hE:∀ d,(bl E).contains d=!q d)(a:Nat)(s:BA)(p n:Nat)(c:Int)(w:World)(hs:s.size≤4294967280)(h:DR w a s p n c):
  Calls Tryz.prog 205 #[.pointer (some ⟨a,0,none⟩),.string E] w (LP q a s p n c w):=by
 have HE:=ae hE;clear hE
 obtain⟨f,y,k⟩:=h.cells
 have c1:=k.c1
 have hp:=h.le
 have HD:=ae h;clear h k
 go_enter Tryz.func205,Tryz.ntmps205
 go_wp2_with fail
 go_loopw [] (fun wr=>∃ k:Nat,p≤k∧k≤s.size∧Hid (DR wr a s k n c)∧Hid (w.grownBy wr (some a))∧Hid (p+au q ((bl s).drop p)=k+au q ((bl s).drop k))) (fun wr=>s.size-C9 a wr)
 case atStart=>exact⟨p,lr,hp,HD,World.grownBy.refl _ _,rfl⟩
 case round=>
  clear c1
  obtain⟨k,hk1,hk2,HR,HG,HN⟩:=hrel
  obtain⟨f',y',K⟩:=HR.out.cells
  obtain⟨c0,c1,c2,c3,c4,c5,f0,f1,f2,f3,f4,f5⟩:=K
  clear c2 c3 c4 c5 f0 f2 f3 f4 f5
  have MA:=ae HR.out.at_
  have hpk:(p:Int)≤(k:Int):=by omega
  have hks:(k:Int)≤(s.size:Int):=by omega
  by_cases hlt:k<s.size
  ·obtain⟨d,hd⟩:∃ d:UInt8,s[k]=d:=⟨_,rfl⟩
   have hI:=fun W=>(bt E d W).mono (fun (_:Ending) (_:World) ⟨he,hw⟩=>(⟨he,hw.symm⟩:_∧_))
   cases hq:q d with
   | true=>
    have hn:Ep E d<0:=ju E d (by rw[HE.out,hq];rfl)
    have hn2:decide (Ep E d<0)=true:=dT hn
    have HN2:Hid (p+au q ((bl s).drop p)=(k+1)+au q ((bl s).drop (k+1))):=by
     have:=HN.out;rw[AJ s k hlt (by rw[hd];exact hq)] at this;show _=_;omega
    have HM:=ae (HR.out.move (q:=k+1) (by omega) (by omega))
    clear hq
    generalize Ep E d=i at hI hn hn2
    go_wp2_with fail
    go_quiet ((go_at_call 68;exact Calls.quiet_of_same (hI _)))
    go_wp2_with fail
    go_roundw
    case rel=>exact⟨k+1,by omega,by omega,HM.out.drewN _,ew (ap HG.out (bN _)) _,HN2⟩
    case measure=>exact DR.dec (HM.out.drewN _) HR.out (Nat.lt_succ_self _)
   | false=>
    have hn:0≤Ep E d:=jY E d (by rw[HE.out,hq];rfl)
    have hn2:decide (Ep E d<0)=false:=dF (by omega)
    have HX:Hid (p+au q ((bl s).drop p)=k):=by
     have:=HN.out;rw[AK s k hlt (by rw[hd];exact hq)] at this;exact this
    clear hq
    generalize Ep E d=i at hI hn hn2
    go_wp2_with fail
    go_quiet ((go_at_call 68;exact Calls.quiet_of_same (hI _)))
    go_wp2_with fail
    go_quiet (fail)
    go_wp2_with fail
    go_ret2
    refine⟨?_,by rw[HX.out];exact(HR.out.drewN _).drewN _,ew (ew HG.out _) _⟩
    have:=HX.out
    rw[←Kb q s p k this];congr 5;simp;omega
  ·have hlt2:decide (k<s.size)=false:=dF hlt
   have HX:Hid (p+au q ((bl s).drop p)=k):=by
    have:=HN.out;rw[Fl _ s k hlt] at this;exact this
   go_wp2_with fail
   go_quiet (fail)
   go_wp2_with fail
   go_quiet (fail)
   go_wp2_with fail
   go_ret2
   refine⟨?_,by rw[HX.out];exact(HR.out.drewN _).drewN _,ew (ew HG.out _) _⟩
   have:=HX.out
   rw[←Kb q s p k this];congr 5;simp;omega
end
section
open Go.RowKit Go.Sort
structure Hr (w:World):Prop where
 gl:Gl w
 prs:∀ i,i<4→w.cell? ⟨1,i,none⟩=some (.string (ci i))
 tab : Lib.TabIs Tryz.prog w "internal/strconv.uint64pow10" .u64 Lib.pow10Tab
theorem Ba : Tryz.prog.globalNamed "internal/strconv.uint64pow10" = some 10 := by kernel_rfl
theorem Hr.below {w w':World}(h:Hr w)(hb:Below w.heap.size w w'):Hr w':=by
 refine⟨h.gl.below hb,fun i hi=>(hb.cell (World.block_lt_of_cell? _ _ (h.prs i hi))).trans (h.prs i hi),?_⟩
 have ht:=h.tab
 unfold Lib.TabIs at ht ⊢
 refine var?_below hb Ba ?_ ht
 unfold World.var? at ht
 rw[Ba] at ht
 simp only[Option.bind_some] at ht
 apply Classical.byContradiction
 intro hn
 rw[Array.getElem?_eq_none (by omega)] at ht
 cases ht
theorem IL (w:World)(k:Nat)(os:Array Obj):Below w.heap.size w (grow (w.drewN k) os):=
 ⟨rfl,rfl,rfl,by simp[grow,World.drewN],fun i hi=>by simp[grow,World.drewN,Array.getElem?_append_left hi]⟩
theorem oy (n:Nat)(w:World)(hG:Hr w)(hn:n≤4611686018427387903):
  Calls Tryz.prog 117 #[.int .i64 n] w fun e w'=>e=.returned (.string (gO n))∧Below w.heap.size w w':=by
 have h0:decide ((n:Int)<0)=false:=dF (by omega)
 have E:Hid ((⟨(Lib.itoa (n:Int)).toArray⟩:BA)=gO n):=by
  show _=_
  unfold Lib.itoa gO
  rw[if_neg (by omega),Int.toNat_natCast,wk]
 have HT:=ae hG.tab
 clear hG
 go_enter Tryz.func117,Tryz.ntmps117
 go_wp2_with fail
 refine(Tryz.strconv_Itoa n (by omega) (by omega) _ HT.out).mono ?_;rintro e w' ⟨rfl,k,os,rfl⟩
 rw[E.out]
 go_wp2_with fail
 go_ret
 exact⟨rfl,IL w k os⟩
def nH (s:BA):Nat:=if ci 0=s then 0 else if ci 1=s then 1 else if ci 2=s then 2 else if ci 3=s then 3 else 4
theorem UB (k:Nat)(hk:k<4)(x:Nat→BA)(w:World):(Instr.index 129 (.agg #[.string (x 0),.string (x 1),.string (x 2),.string (x 3)]) (.int .i64 k)).run Tryz.prog w=.ok (.string (x k)) w:=by
 rcases(by omega:k=0∨k=1∨k=2∨k=3) with rfl | rfl | rfl | rfl<;>kernel_rfl
theorem FF {s:BA}{k:Nat}(hk:k<4)(hn:∀ j,j<k→¬ ci j=s)(h:ci k=s):nH s=k:=by
 unfold nH
 rcases(by omega:k=0∨k=1∨k=2∨k=3) with rfl | rfl | rfl | rfl
 ·rw[if_pos h]
 ·rw[if_neg (hn 0 (by omega)),if_pos h]
 ·rw[if_neg (hn 0 (by omega)),if_neg (hn 1 (by omega)),if_pos h]
 ·rw[if_neg (hn 0 (by omega)),if_neg (hn 1 (by omega)),if_neg (hn 2 (by omega)),if_pos h]
theorem Bb {s:BA}(hn:∀ j,j<4→¬ ci j=s):nH s=4:=by
 unfold nH
 rw[if_neg (hn 0 (by omega)),if_neg (hn 1 (by omega)),if_neg (hn 2 (by omega)),if_neg (hn 3 (by omega))]
theorem Bc (s:BA):decide (nH s<4)=bu.contains (bl s):=by
 have hp:bu=[bl (ci 0),bl (ci 1),bl (ci 2),bl (ci 3)]:=rfl
 rw[bI,decide_eq_true_iff,hp,List.contains_iff_mem]
 simp only[List.mem_cons,List.not_mem_nil,or_false]
 have hinj:∀ k,bl s=bl (ci k)↔ci k=s:=fun k=>⟨fun e=>(dp e).symm,fun e=>by rw[e]⟩
 rw[hinj 0,hinj 1,hinj 2,hinj 3]
 unfold nH
 repeat' split
 all_goals simp_all
theorem rG (s:BA)(w:World)(hG:Hr w):
  Calls Tryz.prog 116 #[.string s] w fun e w'=>e=.returned (.int .i64 (nH s))∧w=w':=by
 have g0:=hG.prs 0 (by omega)
 have g1:=hG.prs 1 (by omega)
 have g2:=hG.prs 2 (by omega)
 have g3:=hG.prs 3 (by omega)
 clear hG
 go_enter Tryz.func116,Tryz.ntmps116
 go_wp2_with fail
 clear g0 g1 g2 g3
 go_loop [6] (fun i=>∃ k:Nat,k≤4∧i=.int .i64 k∧Hid (∀ j,j<k→¬ ci j=s)) (fun i=>4-(intOf i).toNat)
 case atStart=>exact⟨0,by omega,rfl,ae (fun j hj=>by omega)⟩
 case round=>
  obtain⟨k,hk,rfl,HN⟩:=hrel
  by_cases hlt:k<4
  ·have hix:=fun W=>UB k hlt ci W
   cases hE:((ci k).toList==s.toList)
   ·have HNE:Hid (¬ ci k=s):=by show ¬ _;rw[fZ] at hE;exact of_decide_eq_false hE
    go_wp2_with fail
    go_round
    case rel=>exact⟨k+1,by omega,by go_num,ae (fun j hj=>by
     by_cases e:j=k
     ·subst e;exact HNE.out
     ·exact HN.out j (by omega))⟩
    case measure=>simp[intOf];omega
   ·have HE:Hid (ci k=s):=by show _=_;rw[fZ] at hE;exact dO hE
    go_wp2_with fail
    go_ret
    exact⟨az (by rw[FF hlt HN.out HE.out]),rfl⟩
  ·go_wp2_with fail
   go_ret
   exact⟨az (by rw[Bb (fun j hj=>HN.out j (by omega))];rfl),rfl⟩
end
section
open Go.RowKit
theorem Dn (l:LU)(c:UInt8):(Lib.cut l [c]).1.length≤l.length∧(Lib.cut l [c]).2.1.length≤l.length:=Cw l [c]
theorem OZ {p a b:LU}(h:gW p=some (a,b)):a.length≤p.length∧b.length≤p.length:=by
 unfold gW at h
 split at h
 ·split at h
  ·injection h with h;injection h with h1 h2;subst h1 h2;simp
  ·cases h
 ·split at h
  ·injection h with h;injection h with h1 h2;subst h1 h2
   rw[List.length_take,List.length_drop];omega
  ·cases h
theorem O0 {p a b:LU}(h:iJ p=some (a,b)):a.length≤p.length∧b.length≤p.length:=by
 unfold iJ at h
 split at h
 ·injection h with h;injection h with h1 h2;subst h1 h2;exact Dn p 45
 ·cases h
theorem Mh {fmt:Int}(hf:dk fmt){l a b d:LU}(h:bC fmt l=some (a,b,d)):a.length≤l.length∧b.length≤l.length∧d.length≤l.length:=by
 rcases hf with rfl | rfl | rfl
 ·have h:fg l=some (a,b,d):=h
  unfold fg at h
  split at h
  ·cases h
  ·rename_i ep p he
   have hep:ep.length≤l.length∧p.length≤l.length:=by
    unfold cE at he
    split at he
    ·split at he
     ·injection he with he;injection he with h1 h2;subst h1 h2;exact Dn l 58
     ·cases he
    ·injection he with he;injection he with h1 h2;subst h1 h2;simp
   cases hr:gW p with
   | none=>rw[hr] at h;cases h
   | some y=>
    obtain⟨y1,y2⟩:=y
    rw[hr] at h;simp only[Option.map_some,Option.some.injEq,Prod.mk.injEq] at h
    obtain⟨rfl,rfl,rfl⟩:=h
    have:=OZ hr;omega
 ·have h:fh l=some (a,b,d):=h
  unfold fh at h
  split at h
  ·cases h
  ·rename_i ep p he
   have hep:ep.length≤l.length∧p.length≤l.length:=by
    unfold gN at he
    split at he
    ·split at he
     ·injection he with he;injection he with h1 h2;subst h1 h2;exact Dn l 58
     ·cases he
    ·injection he with he;injection he with h1 h2;subst h1 h2;simp
   cases hr:iJ p with
   | none=>rw[hr] at h;cases h
   | some y=>
    obtain⟨y1,y2⟩:=y
    rw[hr] at h;simp only[Option.map_some,Option.some.injEq,Prod.mk.injEq] at h
    obtain⟨rfl,rfl,rfl⟩:=h
    have:=O0 hr;omega
 ·have h:cf l=some (a,b,d):=h
  unfold cf at h
  cases ha:kB l with
  | none=>rw[ha] at h;cases h
  | some x=>
   obtain⟨ps,p,q⟩:=x
   rw[ha] at h;simp only[Option.map_some,Option.some.injEq,Prod.mk.injEq] at h
   obtain⟨rfl,rfl,rfl⟩:=h
   refine⟨z0,?_⟩
   have hsuf:∀ k acc r ps t,dU k acc r=some (ps,t)→t.length≤r.length:=by
    intro k
    induction k with
    | zero=>intro acc r ps t h;cases h
    | succ k ih=>
     intro acc r ps t h
     unfold dU at h
     split at h
     ·split at h
      ·cases h
      ·have:=ih _ _ _ _ h
       simp only[List.length_drop,List.length_cons] at this ⊢;omega
     ·injection h with h;injection h with _ h2;subst h2;exact Nat.le_refl _
   have hnum:∀ k kind acc l ps t,dS k kind acc l=some (ps,t)→t.length≤l.length:=by
    intro k
    induction k with
    | zero=>intro kind acc l ps t h;cases h
    | succ k ih=>
     intro kind acc l ps t h
     unfold dS at h
     split at h
     ·cases h
     ·split at h
      ·rename_i r hr
       have h2:=ih _ _ _ _ _ h
       have h3:=congrArg List.length hr
       rw[List.length_drop,List.length_cons] at h3;omega
      ·injection h with h;injection h with _ h2;subst h2
       rename_i hr
       rw[List.length_drop];omega
   have hlet:∀ acc l,(fi acc l).2.length≤l.length:=by
    intro acc l
    unfold fi
    split
    ·split<;>simp
    ·simp
   unfold kB at ha
   split at ha
   ·cases ha
   ·rename_i a r hn
    split at ha
    ·cases ha
    ·rename_i b t hs
     have h1:=hnum _ _ _ _ _ _ hn
     have h2:=hsuf _ _ _ _ _ hs
     have h3:=hlet a r
     unfold jA at ha
     split at ha
     ·injection ha with ha;injection ha with _ ha;injection ha with h5 h6;subst h5 h6;simp
     ·split at ha
      ·injection ha with ha;injection ha with _ ha;injection ha with h5 h6;subst h5 h6
       rw[List.length_take]
       simp only[List.length_cons] at h2
       omega
      ·cases ha
     ·cases ha
theorem mG (fmt:Int)(hf:dk fmt)(s:BA)(w:World)(hG:Gl w)(hs:s.size≤9223372036854775807):
  Calls Tryz.prog 69 #[.int .i64 fmt,.string s] w fun e w'=>∃ ep pr rv:BA,e=.returned (.tuple #[.string ep,.string pr,.string rv,.int .i64 (aV fmt s)]) ∧
   (aV fmt s=0→bC fmt (bl s)=some (bl ep,bl pr,bl rv)∧s.size≤64∧ep.size≤64∧pr.size≤64∧rv.size≤64)∧Below w.heap.size w w':=by
 by_cases h64:64<s.size
 ·refine(lh fmt s w hs (.inr h64)).mono fun e w' ⟨he,hw⟩=>⟨⟨#[]⟩,⟨#[]⟩,⟨#[]⟩,he,fun h0=>?_,by rw[←hw];exact bR⟩
  unfold aV at h0
  rw[if_neg (fun hn=>hn hf),if_pos h64] at h0;cases h0
 ·refine(lf fmt hf s w hG (by omega)).mono fun e w' ⟨ep,pr,rv,c,he,hr,hb⟩=>?_
  have E:aV fmt s=rg (bC fmt (bl s)):=by unfold aV;rw[if_neg (fun hn=>hn hf),if_neg h64]
  cases hx:bC fmt (bl s) with
  | none=>
   rw[hx] at hr
   obtain⟨rfl,rfl,rfl,rfl⟩:=hr
   refine⟨⟨#[]⟩,⟨#[]⟩,⟨#[]⟩,by rw[he,E,hx];rfl,fun h0=>?_,hb⟩
   rw[E,hx] at h0;cases h0
  | some x=>
   obtain⟨a,b,d⟩:=x
   rw[hx] at hr
   obtain⟨rfl,h1,h2,h3⟩:=hr
   refine⟨ep,pr,rv,by rw[he,E,hx];rfl,fun _=>?_,hb⟩
   have hl:=Mh hf hx
   rw[←h1,←h2,←h3,af,af,af,af] at hl
   refine⟨by rw[h1,h2,h3],by omega,by omega,by omega,by omega⟩
end
end Go.Proofs.YtkjdbpjglobbjaaGreatDoor
