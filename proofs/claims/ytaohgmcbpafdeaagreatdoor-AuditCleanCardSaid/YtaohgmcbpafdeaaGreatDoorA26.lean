/- A part of the proof. -/
import Derived.Test.YtaohgmcbpafdeaaGreatDoorA25
set_option maxRecDepth 100000
set_option maxHeartbeats 20000000
set_option linter.unusedVariables false
set_option linter.unusedSimpArgs false
namespace Go.Proofs.YtaohgmcbpafdeaaGreatDoor
section
open Go.RowKit Go.Deep
theorem fu (x e:Int)(a:Nat)(s:BA)(p n:Nat)(c:Int)(w:World)(h:DR w a s p n c):
  Calls Tryz.prog 242 #[.pointer (some ⟨a,0,none⟩),.int .i64 x,.int .i64 e] w fun en w'=>en=.returned (.tuple #[])∧DR w' a s p n (jo c e)∧w.grownBy w' (some a):=by
 obtain⟨f,y,k⟩:=h.cells
 have HD:=ae h;clear h
 obtain⟨c0,c1,c2,c3,c4,c5,f0,f1,f2,f3,f4,f5⟩:=k
 clear c0 c1 c2 f0 f1 f2
 by_cases hc:c=0
 ·subst hc
  by_cases he:e=0
  ·subst he
   go_enter Tryz.func242,Tryz.ntmps242
   go_wp2_with fail
   go_end0
   exact⟨rfl,HD.out,World.grownBy.refl _ _⟩
  ·have he1:(e != 0)=true:=by simp[he]
   have HN:Hid (jo 0 e=e):=by simp[Hid,jo]
   clear he
   go_enter Tryz.func242,Tryz.ntmps242
   go_wp2_with fail
   go_end0
   exact⟨rfl,by rw[HN.out];exact HD.out.noted _ _ _,ai (ai (aN _) (aN _)) (aN _)⟩
 ·have hc1:(c==0)=false:=by simp[hc]
  have HN:Hid (jo c e=c):=by simp[Hid,jo,hc]
  clear hc
  go_enter Tryz.func242,Tryz.ntmps242
  go_wp2_with fail
  go_end0
  exact⟨rfl,by rw[HN.out];exact HD.out,World.grownBy.refl _ _⟩
theorem aJ (ch:UInt8)(a:Nat)(s:BA)(p n:Nat)(c:Int)(w:World)(hs:s.size≤4294967280)(h:DR w a s p n c)(hh:Hid (ay ch ((bl s).drop p)=true)):
  Calls Tryz.prog 189 #[.pointer (some ⟨a,0,none⟩),.int .u8 ch.toNat] w fun e w'=>e=.returned (.bool true)∧DR w' a s (p+1) n c∧w.grownBy w' (some a):=by
 have hlt:p<s.size:=by
  rcases Nat.lt_or_ge p s.size with h1 | h1
  ·exact h1
  ·have:=hh.out;rw[IW s p ch (by omega)] at this;cases this
 have e1:s[p]=ch:=by have:=hh.out;rw[DV s p ch hlt] at this;simpa using this
 obtain⟨f,y,k⟩:=h.cells
 have HM:=ae (h.move (q:=p+1) (by omega) (by omega));clear h hh
 obtain⟨c0,c1,c2,c3,c4,c5,f0,f1,f2,f3,f4,f5⟩:=k
 clear c2 c3 c4 c5 f0 f2 f3 f4 f5
 go_enter Tryz.func189,Tryz.ntmps189
 go_wp2_with fail
 go_quiet (fail)
 go_wp2_with fail
 go_ret
 exact⟨rfl,HM.out.drewN _,bz (aN _) _⟩
theorem aC (ch:UInt8)(a:Nat)(s:BA)(p n:Nat)(c:Int)(w:World)(hs:s.size≤4294967280)(h:DR w a s p n c)(hh:Hid (ay ch ((bl s).drop p)=false)):
  Calls Tryz.prog 189 #[.pointer (some ⟨a,0,none⟩),.int .u8 ch.toNat] w fun e w'=>e=.returned (.bool false)∧DR w' a s p n c∧w.grownBy w' (some a):=by
 obtain⟨f,y,k⟩:=h.cells
 have HD:=ae h;clear h
 obtain⟨c0,c1,c2,c3,c4,c5,f0,f1,f2,f3,f4,f5⟩:=k
 clear c2 c3 c4 c5 f0 f2 f3 f4 f5
 by_cases hlt:p<s.size
 ·obtain⟨d,hd⟩:∃ d:UInt8,s[p]=d:=⟨_,rfl⟩
  have e1:((d.toNat:Int)==(ch.toNat:Int))=false:=by have:=hh.out;rw[DV s p ch hlt,hd] at this;rw[dB];exact this
  clear hh
  go_enter Tryz.func189,Tryz.ntmps189
  go_wp2_with fail
  go_quiet (fail)
  go_wp2_with fail
  go_ret
  exact⟨rfl,HD.out.drewN _,bz (World.grownBy.refl _ _) _⟩
 ·have hlt2:decide (p<s.size)=false:=dF hlt
  clear hh
  go_enter Tryz.func189,Tryz.ntmps189
  go_wp2_with fail
  go_quiet (fail)
  go_wp2_with fail
  go_ret
  exact⟨rfl,HD.out.drewN _,bz (World.grownBy.refl _ _) _⟩
theorem aF (a:Nat)(s:BA)(p n:Nat)(c:Int)(w:World)(hs:s.size≤4294967280)(h:DR w a s p n c):
  Calls Tryz.prog 187 #[.pointer (some ⟨a,0,none⟩)] w fun e w'=>e=.returned (.bool (ay 32 ((bl s).drop p)))∧DR w' a s (p+aA aO ((bl s).drop p)) n c∧w.grownBy w' (some a):=by
 obtain⟨f,y,k⟩:=h.cells
 have c1:=k.c1
 have hp:=h.le
 have HD:=ae h;clear h k
 go_enter Tryz.func187,Tryz.ntmps187
 go_wp2_with fail
 go_loopw [] (fun wr=>∃ k:Nat,p≤k∧k≤s.size∧Hid (DR wr a s k n c)∧Hid (w.grownBy wr (some a))∧Hid (p+aA aO ((bl s).drop p)=k+aA aO ((bl s).drop k))) (fun wr=>s.size-xt a wr)
 case atStart=>exact⟨p,lr,hp,HD,World.grownBy.refl _ _,rfl⟩
 case round=>
  clear c1
  obtain⟨k,hk1,hk2,HR,HG,HN⟩:=hrel
  obtain⟨f',y',K⟩:=HR.out.cells
  obtain⟨c0,c1,c2,c3,c4,c5,f0,f1,f2,f3,f4,f5⟩:=K
  clear c2 c3 c4 c5 f0 f2 f3 f4 f5
  have MA:=ae HR.out.at_
  by_cases hlt:k<s.size
  ·obtain⟨d,hd⟩:∃ d:UInt8,s[k]=d:=⟨_,rfl⟩
   by_cases h32:d.toNat=32
   ·have HN2:Hid (p+aA aO ((bl s).drop p)=(k+1)+aA aO ((bl s).drop (k+1))):=by
     have:=HN.out;rw[vJ s k hlt (by rw[hd];simp[aO];exact UInt8.toNat_inj.1 h32)] at this;show _=_;omega
    have HM:=ae (HR.out.move (q:=k+1) (by omega) (by omega))
    go_wp2_with fail
    go_quiet (fail)
    go_wp2_with fail
    go_roundw
    case rel=>exact⟨k+1,by omega,by omega,HM.out.drewN _,bz (ai HG.out (aN _)) _,HN2⟩
    case measure=>exact DR.dec (HM.out.drewN _) HR.out (Nat.lt_succ_self _)
   ·have h32':((d.toNat:Int)==32)=false:=by simp;omega
    have HE:Hid (p+aA aO ((bl s).drop p)=k):=by
     have:=HN.out;rw[vK s k hlt (by rw[hd];simp[aO];intro e;exact h32 (by rw[e];rfl))] at this;exact this
    have HB:Hid (ay 32 ((bl s).drop p)=decide (p<k)):=by
     have:=HE.out;show _=_;rw[←sx];congr 1;simp;omega
    clear h32
    go_wp2_with fail
    go_quiet (fail)
    go_wp2_with fail
    go_ret
    exact⟨af (by rw[HB.out]),by rw[HE.out];exact HR.out.drewN _,bz HG.out _⟩
  ·have hlt2:decide (k<s.size)=false:=dF hlt
   have HE:Hid (p+aA aO ((bl s).drop p)=k):=by
    have:=HN.out;rw[zk _ s k hlt] at this;exact this
   have HB:Hid (ay 32 ((bl s).drop p)=decide (p<k)):=by
    have:=HE.out;show _=_;rw[←sx];congr 1;simp;omega
   go_wp2_with fail
   go_quiet (fail)
   go_wp2_with fail
   go_ret
   exact⟨af (by rw[HB.out]),by rw[HE.out];exact HR.out.drewN _,bz HG.out _⟩
def FB (q:UInt8→Bool)(a:Nat)(s:BA)(p n:Nat)(c:Int)(w:World)(e:Ending)(w':World):Prop:=
 e=.returned (.tuple #[.string (bC (((bl s).drop p).take (aA q ((bl s).drop p)))),.bool (decide (0<aA q ((bl s).drop p)))])∧DR w' a s (p+aA q ((bl s).drop p)) n c∧w.grownBy w' (some a)
theorem DX (q:UInt8→Bool)(s:BA)(p k:Nat)(h:p+aA q ((bl s).drop p)=k):s.extract p k=bC (((bl s).drop p).take (aA q ((bl s).drop p))):=by
 apply vD;rw[iC];congr 1;omega
theorem sH (E:BA)(q:UInt8→Bool)(hE:∀ d,(bl E).contains d=!q d)(a:Nat)(s:BA)(p n:Nat)(c:Int)(w:World)(hs:s.size≤4294967280)(h:DR w a s p n c):
  Calls Tryz.prog 241 #[.pointer (some ⟨a,0,none⟩),.string E] w (FB q a s p n c w):=by
 have HE:=ae hE;clear hE
 obtain⟨f,y,k⟩:=h.cells
 have c1:=k.c1
 have hp:=h.le
 have HD:=ae h;clear h k
 go_enter Tryz.func241,Tryz.ntmps241
 go_wp2_with fail
 go_loopw [] (fun wr=>∃ k:Nat,p≤k∧k≤s.size∧Hid (DR wr a s k n c)∧Hid (w.grownBy wr (some a))∧Hid (p+aA q ((bl s).drop p)=k+aA q ((bl s).drop k))) (fun wr=>s.size-xt a wr)
 case atStart=>exact⟨p,lr,hp,HD,World.grownBy.refl _ _,rfl⟩
 case round=>
  clear c1
  obtain⟨k,hk1,hk2,HR,HG,HN⟩:=hrel
  obtain⟨f',y',K⟩:=HR.out.cells
  obtain⟨c0,c1,c2,c3,c4,c5,f0,f1,f2,f3,f4,f5⟩:=K
  clear c2 c3 c4 c5 f0 f2 f3 f4 f5
  have MA:=ae HR.out.at_
  have hpk:(p:Int)≤(k:Int):=by omega
  have hks:(k:Int)≤(s.size:Int):=by omega
  by_cases hlt:k<s.size
  ·obtain⟨d,hd⟩:∃ d:UInt8,s[k]=d:=⟨_,rfl⟩
   have hI:=fun W=>(aM E d W).mono (fun (_:Ending) (_:World) ⟨he,hw⟩=>(⟨he,hw.symm⟩:_∧_))
   cases hq:q d with
   | true=>
    have hn:uz E d<0:=fg E d (by rw[HE.out,hq];rfl)
    have hn2:decide (uz E d<0)=true:=dT hn
    have HN2:Hid (p+aA q ((bl s).drop p)=(k+1)+aA q ((bl s).drop (k+1))):=by
     have:=HN.out;rw[vJ s k hlt (by rw[hd];exact hq)] at this;show _=_;omega
    have HM:=ae (HR.out.move (q:=k+1) (by omega) (by omega))
    clear hq
    generalize uz E d=i at hI hn hn2
    go_wp2_with fail
    go_quiet ((go_at_call 107;exact Calls.quiet_of_same (hI _)))
    go_wp2_with fail
    go_roundw
    case rel=>exact⟨k+1,by omega,by omega,HM.out.drewN _,bz (ai HG.out (aN _)) _,HN2⟩
    case measure=>exact DR.dec (HM.out.drewN _) HR.out (Nat.lt_succ_self _)
   | false=>
    have hn:0≤uz E d:=fH E d (by rw[HE.out,hq];rfl)
    have hn2:decide (uz E d<0)=false:=dF (by omega)
    have HX:Hid (p+aA q ((bl s).drop p)=k):=by
     have:=HN.out;rw[vK s k hlt (by rw[hd];exact hq)] at this;exact this
    clear hq
    generalize uz E d=i at hI hn hn2
    go_wp2_with fail
    go_quiet ((go_at_call 107;exact Calls.quiet_of_same (hI _)))
    go_wp2_with fail
    go_quiet (fail)
    go_wp2_with fail
    go_ret2
    refine⟨?_,by rw[HX.out];exact(HR.out.drewN _).drewN _,bz (bz HG.out _) _⟩
    have:=HX.out
    rw[←DX q s p k this];congr 5;simp;omega
  ·have hlt2:decide (k<s.size)=false:=dF hlt
   have HX:Hid (p+aA q ((bl s).drop p)=k):=by
    have:=HN.out;rw[zk _ s k hlt] at this;exact this
   go_wp2_with fail
   go_quiet (fail)
   go_wp2_with fail
   go_quiet (fail)
   go_wp2_with fail
   go_ret2
   refine⟨?_,by rw[HX.out];exact(HR.out.drewN _).drewN _,bz (bz HG.out _) _⟩
   have:=HX.out
   rw[←DX q s p k this];congr 5;simp;omega
def Mz:BA:=⟨#[32,44,124,40,41,91,93]⟩
def MB:BA:=⟨#[32,44,124,40,41,91,93,58]⟩
def ME:BA:=⟨#[32,44,124,40,41,91,93,58,33]⟩
theorem eX (d:UInt8):(bl Mz).contains d=!mB d:=by
 have:=jI (fun c=>(bl Mz).contains c == !mB c) (by kernel_rfl) d;simpa using this
theorem zn (d:UInt8):(bl MB).contains d=!oo d:=by
 have:=jI (fun c=>(bl MB).contains c == !oo c) (by kernel_rfl) d;simpa using this
theorem sI (d:UInt8):(bl ME).contains d=!ik d:=by
 have:=jI (fun c=>(bl ME).contains c == !ik c) (by kernel_rfl) d;simpa using this
theorem dD {q:UInt8→Bool}{s:BA}{p:Nat}{t r:LU}(hp:p≤s.size)(h:lf q ((bl s).drop p)=some (t,r)):t.length=aA q ((bl s).drop p)∧(bl s).drop (p+t.length)=r∧0<t.length∧p+t.length≤s.size:=by
 obtain⟨h1,h2,h3⟩:=oq h
 have hl:t.length=aA q ((bl s).drop p):=by rw[h2,List.length_take];have:=fh q ((bl s).drop p);omega
 have:=Fw q s p hp
 refine⟨hl,?_,by omega,by omega⟩
 rw[hl,←List.drop_drop,h3]
theorem IX {q:UInt8→Bool}{l:LU}(h:lf q l=none):aA q l=0:=by
 unfold lf at h;split at h
 ·assumption
 ·cases h
theorem cL {E:BA}{q:UInt8→Bool}(hE:∀ d,(bl E).contains d=!q d)(a:Nat)(s:BA)(p n:Nat)(c:Int)(w:World)(hs:s.size≤4294967280)(h:DR w a s p n c)(hh:Hid (lf q ((bl s).drop p)=none)):
  Calls Tryz.prog 241 #[.pointer (some ⟨a,0,none⟩),.string E] w fun e w'=>e=.returned (.tuple #[.string ⟨#[]⟩,.bool false])∧DR w' a s p n c∧w.grownBy w' (some a):=by
 refine(sH E q hE a s p n c w hs h).mono fun e w' ⟨h1,h2,h3⟩=>?_
 rw[IX hh.out] at h1 h2
 exact⟨h1,h2,h3⟩
theorem ct {E:BA}{q:UInt8→Bool}(hE:∀ d,(bl E).contains d=!q d)(t r:LU)(a:Nat)(s:BA)(p n:Nat)(c:Int)(w:World)(hs:s.size≤4294967280)(h:DR w a s p n c)(hh:Hid (lf q ((bl s).drop p)=some (t,r))):
  Calls Tryz.prog 241 #[.pointer (some ⟨a,0,none⟩),.string E] w fun e w'=>e=.returned (.tuple #[.string (bC t),.bool true])∧DR w' a s (p+t.length) n c∧w.grownBy w' (some a):=by
 refine(sH E q hE a s p n c w hs h).mono fun e w' ⟨h1,h2,h3⟩=>?_
 obtain⟨g1,g2,g3,g4⟩:=dD h.le hh.out
 obtain⟨k1,k2,k3⟩:=oq hh.out
 rw[←k2,dT k1] at h1
 rw[←g1] at h2
 exact⟨h1,h2,h3⟩
def IY (t:LU)(a:Nat)(s:BA)(p n:Nat)(c:Int)(w:World)(e:Ending)(w':World):Prop:=
 e=.returned (.tuple #[.string (bC t),.bool true])∧(∃ c',DR w' a s (p+t.length) n c'∧(c'=0↔c=0∧cU t=true))∧w.grownBy w' (some a)
theorem hQ (a:Nat)(s:BA)(p n:Nat)(c:Int)(w:World)(hs:s.size≤4294967280)(h:DR w a s p n c)(hh:Hid (lf ik ((bl s).drop p)=none)):
  Calls Tryz.prog 243 #[.pointer (some ⟨a,0,none⟩)] w fun e w'=>e=.returned (.tuple #[.string ⟨#[]⟩,.bool false])∧DR w' a s p n c∧w.grownBy w' (some a):=by
 obtain⟨f,y,k⟩:=h.cells
 have c1:=k.c1
 have HD:=ae h;clear h k
 go_enter Tryz.func243,Tryz.ntmps243
 go_wp2_with fail
 refine(cL sI a s p n c w hs HD.out hh).mono ?_;rintro e w1 ⟨rfl,hd,hg⟩
 have HD1:=ae hd;have HG1:=ae hg
 clear hd hg c1
 go_wp2_with fail
 go_ret2
 exact⟨rfl,HD1.out,HG1.out⟩
theorem ib (t r:LU)(a:Nat)(s:BA)(p n:Nat)(c:Int)(w:World)(hs:s.size≤4294967280)(h:DR w a s p n c)(hh:Hid (lf ik ((bl s).drop p)=some (t,r))):
  Calls Tryz.prog 243 #[.pointer (some ⟨a,0,none⟩)] w (IY t a s p n c w):=by
 obtain⟨f,y,k⟩:=h.cells
 have c1:=k.c1
 have hz:(bC t).size≤s.size:=by have:=(dD h.le hh.out).2.2.2;rw[bS];omega
 have HD:=ae h;clear h k
 have hW:=fun W=>pk (bC t) W (by omega)
 rw[eh] at hW
 cases hd:cU t with
 | true=>
  rw[hd] at hW
  have HT:=ae hd;clear hd
  go_enter Tryz.func243,Tryz.ntmps243
  go_wp2_with fail
  refine(ct sI t r a s p n c w hs HD.out hh).mono ?_;rintro e w1 ⟨rfl,hd,hg⟩
  have HD1:=ae hd;have HG1:=ae hg
  clear hd hg c1
  go_wp2_with fail
  refine(hW _).mono ?_;rintro e w' ⟨rfl,rfl⟩
  go_wp2_with fail
  go_ret2
  exact⟨rfl,⟨c,HD1.out,by simp[HT.out]⟩,HG1.out⟩
 | false=>
  rw[hd] at hW
  have HT:=ae hd;clear hd
  go_enter Tryz.func243,Tryz.ntmps243
  go_wp2_with fail
  refine(ct sI t r a s p n c w hs HD.out hh).mono ?_;rintro e w1 ⟨rfl,hd,hg⟩
  have HD1:=ae hd;have HG1:=ae hg
  clear hd hg c1
  go_wp2_with fail
  refine(hW _).mono ?_;rintro e w' ⟨rfl,rfl⟩
  go_wp2_with fail
  refine(fu _ 10 a s _ n c w1 HD1.out).mono ?_;rintro e w2 ⟨rfl,hd,hg⟩
  have HD2:=ae hd;have HG2:=ae hg
  clear hd hg
  go_wp2_with fail
  go_ret2
  exact⟨rfl,⟨_,HD2.out,by rw[eF,HT.out];simp⟩,ai HG1.out HG2.out⟩
end
end Go.Proofs.YtaohgmcbpafdeaaGreatDoor
