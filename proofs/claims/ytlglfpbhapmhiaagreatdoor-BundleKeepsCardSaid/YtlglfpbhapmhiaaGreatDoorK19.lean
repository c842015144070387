/- A part of the proof. -/
import Derived.Test.YtlglfpbhapmhiaaGreatDoorK18
set_option maxRecDepth 100000
set_option maxHeartbeats 20000000
set_option linter.unusedVariables false
set_option linter.unusedSimpArgs false
namespace Go.Proofs.YtlglfpbhapmhiaaGreatDoor
section
open Go.RowKit Go.Deep
theorem fA (x e:Int)(a:Nat)(s:BA)(p n:Nat)(c:Int)(w:World)(h:DR w a s p n c):
  Calls Tryz.prog 258 #[.pointer (some ⟨a,0,none⟩),.int .i64 x,.int .i64 e] w fun en w'=>en=.returned (.tuple #[])∧DR w' a s p n (jo c e)∧w.grownBy w' (some a):=by
 obtain⟨f,y,k⟩:=h.cells
 have HD:=ae h;clear h
 obtain⟨c0,c1,c2,c3,c4,c5,f0,f1,f2,f3,f4,f5⟩:=k
 clear c0 c1 c2 f0 f1 f2
 by_cases hc:c=0
 ·subst hc
  by_cases he:e=0
  ·subst he
   go_enter Tryz.func258,Tryz.ntmps258
   go_wp2_with fail
   go_end0
   exact⟨rfl,HD.out,World.grownBy.refl _ _⟩
  ·have he1:(e != 0)=true:=by simp[he]
   have HN:Hid (jo 0 e=e):=by simp[Hid,jo]
   clear he
   go_enter Tryz.func258,Tryz.ntmps258
   go_wp2_with fail
   go_end0
   exact⟨rfl,by rw[HN.out];exact HD.out.noted _ _ _,aj (aj (aR _) (aR _)) (aR _)⟩
 ·have hc1:(c==0)=false:=by simp[hc]
  have HN:Hid (jo c e=c):=by simp[Hid,jo,hc]
  clear hc
  go_enter Tryz.func258,Tryz.ntmps258
  go_wp2_with fail
  go_end0
  exact⟨rfl,by rw[HN.out];exact HD.out,World.grownBy.refl _ _⟩
theorem aM (ch:UInt8)(a:Nat)(s:BA)(p n:Nat)(c:Int)(w:World)(hs:s.size≤4294967280)(h:DR w a s p n c)(hh:Hid (ay ch ((bl s).drop p)=true)):
  Calls Tryz.prog 205 #[.pointer (some ⟨a,0,none⟩),.int .u8 ch.toNat] w fun e w'=>e=.returned (.bool true)∧DR w' a s (p+1) n c∧w.grownBy w' (some a):=by
 have hlt:p<s.size:=by
  rcases Nat.lt_or_ge p s.size with h1 | h1
  ·exact h1
  ·have:=hh.out;rw[GM s p ch (by omega)] at this;cases this
 have e1:s[p]=ch:=by have:=hh.out;rw[Cm s p ch hlt] at this;simpa using this
 obtain⟨f,y,k⟩:=h.cells
 have HM:=ae (h.move (q:=p+1) (by omega) (by omega));clear h hh
 obtain⟨c0,c1,c2,c3,c4,c5,f0,f1,f2,f3,f4,f5⟩:=k
 clear c2 c3 c4 c5 f0 f2 f3 f4 f5
 go_enter Tryz.func205,Tryz.ntmps205
 go_wp2_with fail
 go_quiet (fail)
 go_wp2_with fail
 go_ret
 exact⟨rfl,HM.out.drewN _,bO (aR _) _⟩
theorem aC (ch:UInt8)(a:Nat)(s:BA)(p n:Nat)(c:Int)(w:World)(hs:s.size≤4294967280)(h:DR w a s p n c)(hh:Hid (ay ch ((bl s).drop p)=false)):
  Calls Tryz.prog 205 #[.pointer (some ⟨a,0,none⟩),.int .u8 ch.toNat] w fun e w'=>e=.returned (.bool false)∧DR w' a s p n c∧w.grownBy w' (some a):=by
 obtain⟨f,y,k⟩:=h.cells
 have HD:=ae h;clear h
 obtain⟨c0,c1,c2,c3,c4,c5,f0,f1,f2,f3,f4,f5⟩:=k
 clear c2 c3 c4 c5 f0 f2 f3 f4 f5
 by_cases hlt:p<s.size
 ·obtain⟨d,hd⟩:∃ d:UInt8,s[p]=d:=⟨_,rfl⟩
  have e1:((d.toNat:Int)==(ch.toNat:Int))=false:=by have:=hh.out;rw[Cm s p ch hlt,hd] at this;rw[dx];exact this
  clear hh
  go_enter Tryz.func205,Tryz.ntmps205
  go_wp2_with fail
  go_quiet (fail)
  go_wp2_with fail
  go_ret
  exact⟨rfl,HD.out.drewN _,bO (World.grownBy.refl _ _) _⟩
 ·have hlt2:decide (p<s.size)=false:=dF hlt
  clear hh
  go_enter Tryz.func205,Tryz.ntmps205
  go_wp2_with fail
  go_quiet (fail)
  go_wp2_with fail
  go_ret
  exact⟨rfl,HD.out.drewN _,bO (World.grownBy.refl _ _) _⟩
theorem aG (a:Nat)(s:BA)(p n:Nat)(c:Int)(w:World)(hs:s.size≤4294967280)(h:DR w a s p n c):
  Calls Tryz.prog 203 #[.pointer (some ⟨a,0,none⟩)] w fun e w'=>e=.returned (.bool (ay 32 ((bl s).drop p)))∧DR w' a s (p+aA aS ((bl s).drop p)) n c∧w.grownBy w' (some a):=by
 obtain⟨f,y,k⟩:=h.cells
 have c1:=k.c1
 have hp:=h.le
 have HD:=ae h;clear h k
 go_enter Tryz.func203,Tryz.ntmps203
 go_wp2_with fail
 go_loopw [] (fun wr=>∃ k:Nat,p≤k∧k≤s.size∧Hid (DR wr a s k n c)∧Hid (w.grownBy wr (some a))∧Hid (p+aA aS ((bl s).drop p)=k+aA aS ((bl s).drop k))) (fun wr=>s.size-wl a wr)
 case atStart=>exact⟨p,lr,hp,HD,World.grownBy.refl _ _,rfl⟩
 case round=>
  clear c1
  obtain⟨k,hk1,hk2,HR,HG,HN⟩:=hrel
  obtain⟨f',y',K⟩:=HR.out.cells
  obtain⟨c0,c1,c2,c3,c4,c5,f0,f1,f2,f3,f4,f5⟩:=K
  clear c2 c3 c4 c5 f0 f2 f3 f4 f5
  have MA:=ae HR.out.at_
  by_cases hlt:k<s.size
  ·obtain⟨d,hd⟩:∃ d:UInt8,s[k]=d:=⟨_,rfl⟩
   by_cases h32:d.toNat=32
   ·have HN2:Hid (p+aA aS ((bl s).drop p)=(k+1)+aA aS ((bl s).drop (k+1))):=by
     have:=HN.out;rw[uL s k hlt (by rw[hd];simp[aS];exact UInt8.toNat_inj.1 h32)] at this;show _=_;omega
    have HM:=ae (HR.out.move (q:=k+1) (by omega) (by omega))
    go_wp2_with fail
    go_quiet (fail)
    go_wp2_with fail
    go_roundw
    case rel=>exact⟨k+1,by omega,by omega,HM.out.drewN _,bO (aj HG.out (aR _)) _,HN2⟩
    case measure=>exact DR.dec (HM.out.drewN _) HR.out (Nat.lt_succ_self _)
   ·have h32':((d.toNat:Int)==32)=false:=by simp;omega
    have HE:Hid (p+aA aS ((bl s).drop p)=k):=by
     have:=HN.out;rw[uM s k hlt (by rw[hd];simp[aS];intro e;exact h32 (by rw[e];rfl))] at this;exact this
    have HB:Hid (ay 32 ((bl s).drop p)=decide (p<k)):=by
     have:=HE.out;show _=_;rw[←rt];congr 1;simp;omega
    clear h32
    go_wp2_with fail
    go_quiet (fail)
    go_wp2_with fail
    go_ret
    exact⟨af (by rw[HB.out]),by rw[HE.out];exact HR.out.drewN _,bO HG.out _⟩
  ·have hlt2:decide (k<s.size)=false:=dF hlt
   have HE:Hid (p+aA aS ((bl s).drop p)=k):=by
    have:=HN.out;rw[yi _ s k hlt] at this;exact this
   have HB:Hid (ay 32 ((bl s).drop p)=decide (p<k)):=by
    have:=HE.out;show _=_;rw[←rt];congr 1;simp;omega
   go_wp2_with fail
   go_quiet (fail)
   go_wp2_with fail
   go_ret
   exact⟨af (by rw[HB.out]),by rw[HE.out];exact HR.out.drewN _,bO HG.out _⟩
def DG (q:UInt8→Bool)(a:Nat)(s:BA)(p n:Nat)(c:Int)(w:World)(e:Ending)(w':World):Prop:=
 e=.returned (.tuple #[.string (bG (((bl s).drop p).take (aA q ((bl s).drop p)))),.bool (decide (0<aA q ((bl s).drop p)))])∧DR w' a s (p+aA q ((bl s).drop p)) n c∧w.grownBy w' (some a)
theorem Co (q:UInt8→Bool)(s:BA)(p k:Nat)(h:p+aA q ((bl s).drop p)=k):s.extract p k=bG (((bl s).drop p).take (aA q ((bl s).drop p))):=by
 apply uF;rw[jW];congr 1;omega
theorem rB (E:BA)(q:UInt8→Bool)(hE:∀ d,(bl E).contains d=!q d)(a:Nat)(s:BA)(p n:Nat)(c:Int)(w:World)(hs:s.size≤4294967280)(h:DR w a s p n c):
  Calls Tryz.prog 257 #[.pointer (some ⟨a,0,none⟩),.string E] w (DG q a s p n c w):=by
 have HE:=ae hE;clear hE
 obtain⟨f,y,k⟩:=h.cells
 have c1:=k.c1
 have hp:=h.le
 have HD:=ae h;clear h k
 go_enter Tryz.func257,Tryz.ntmps257
 go_wp2_with fail
 go_loopw [] (fun wr=>∃ k:Nat,p≤k∧k≤s.size∧Hid (DR wr a s k n c)∧Hid (w.grownBy wr (some a))∧Hid (p+aA q ((bl s).drop p)=k+aA q ((bl s).drop k))) (fun wr=>s.size-wl a wr)
 case atStart=>exact⟨p,lr,hp,HD,World.grownBy.refl _ _,rfl⟩
 case round=>
  clear c1
  obtain⟨k,hk1,hk2,HR,HG,HN⟩:=hrel
  obtain⟨f',y',K⟩:=HR.out.cells
  obtain⟨c0,c1,c2,c3,c4,c5,f0,f1,f2,f3,f4,f5⟩:=K
  clear c2 c3 c4 c5 f0 f2 f3 f4 f5
  have MA:=ae HR.out.at_
  have hpk:(p:Int)≤(k:Int):=by omega
  have hks:(k:Int)≤(s.size:Int):=by omega
  by_cases hlt:k<s.size
  ·obtain⟨d,hd⟩:∃ d:UInt8,s[k]=d:=⟨_,rfl⟩
   have hI:=fun W=>(aQ E d W).mono (fun (_:Ending) (_:World) ⟨he,hw⟩=>(⟨he,hw.symm⟩:_∧_))
   cases hq:q d with
   | true=>
    have hn:tB E d<0:=eY E d (by rw[HE.out,hq];rfl)
    have hn2:decide (tB E d<0)=true:=dT hn
    have HN2:Hid (p+aA q ((bl s).drop p)=(k+1)+aA q ((bl s).drop (k+1))):=by
     have:=HN.out;rw[uL s k hlt (by rw[hd];exact hq)] at this;show _=_;omega
    have HM:=ae (HR.out.move (q:=k+1) (by omega) (by omega))
    clear hq
    generalize tB E d=i at hI hn hn2
    go_wp2_with fail
    go_quiet ((go_at_call 119;exact Calls.quiet_of_same (hI _)))
    go_wp2_with fail
    go_roundw
    case rel=>exact⟨k+1,by omega,by omega,HM.out.drewN _,bO (aj HG.out (aR _)) _,HN2⟩
    case measure=>exact DR.dec (HM.out.drewN _) HR.out (Nat.lt_succ_self _)
   | false=>
    have hn:0≤tB E d:=fN E d (by rw[HE.out,hq];rfl)
    have hn2:decide (tB E d<0)=false:=dF (by omega)
    have HX:Hid (p+aA q ((bl s).drop p)=k):=by
     have:=HN.out;rw[uM s k hlt (by rw[hd];exact hq)] at this;exact this
    clear hq
    generalize tB E d=i at hI hn hn2
    go_wp2_with fail
    go_quiet ((go_at_call 119;exact Calls.quiet_of_same (hI _)))
    go_wp2_with fail
    go_quiet (fail)
    go_wp2_with fail
    go_ret2
    refine⟨?_,by rw[HX.out];exact(HR.out.drewN _).drewN _,bO (bO HG.out _) _⟩
    have:=HX.out
    rw[←Co q s p k this];congr 5;simp;omega
  ·have hlt2:decide (k<s.size)=false:=dF hlt
   have HX:Hid (p+aA q ((bl s).drop p)=k):=by
    have:=HN.out;rw[yi _ s k hlt] at this;exact this
   go_wp2_with fail
   go_quiet (fail)
   go_wp2_with fail
   go_quiet (fail)
   go_wp2_with fail
   go_ret2
   refine⟨?_,by rw[HX.out];exact(HR.out.drewN _).drewN _,bO (bO HG.out _) _⟩
   have:=HX.out
   rw[←Co q s p k this];congr 5;simp;omega
def KC:BA:=⟨#[32,44,124,40,41,91,93]⟩
def KE:BA:=⟨#[32,44,124,40,41,91,93,58]⟩
def KG:BA:=⟨#[32,44,124,40,41,91,93,58,33]⟩
theorem eT (d:UInt8):(bl KC).contains d=!mp d:=by
 have:=jI (fun c=>(bl KC).contains c == !mp c) (by kernel_rfl) d;simpa using this
theorem yk (d:UInt8):(bl KE).contains d=!nP d:=by
 have:=jI (fun c=>(bl KE).contains c == !nP c) (by kernel_rfl) d;simpa using this
theorem rC (d:UInt8):(bl KG).contains d=!ip d:=by
 have:=jI (fun c=>(bl KG).contains c == !ip c) (by kernel_rfl) d;simpa using this
theorem dz {q:UInt8→Bool}{s:BA}{p:Nat}{t r:LU}(hp:p≤s.size)(h:kU q ((bl s).drop p)=some (t,r)):t.length=aA q ((bl s).drop p)∧(bl s).drop (p+t.length)=r∧0<t.length∧p+t.length≤s.size:=by
 obtain⟨h1,h2,h3⟩:=nQ h
 have hl:t.length=aA q ((bl s).drop p):=by rw[h2,List.length_take];have:=eZ q ((bl s).drop p);omega
 have:=DA q s p hp
 refine⟨hl,?_,by omega,by omega⟩
 rw[hl,←List.drop_drop,h3]
theorem GN {q:UInt8→Bool}{l:LU}(h:kU q l=none):aA q l=0:=by
 unfold kU at h;split at h
 ·assumption
 ·cases h
theorem cI {E:BA}{q:UInt8→Bool}(hE:∀ d,(bl E).contains d=!q d)(a:Nat)(s:BA)(p n:Nat)(c:Int)(w:World)(hs:s.size≤4294967280)(h:DR w a s p n c)(hh:Hid (kU q ((bl s).drop p)=none)):
  Calls Tryz.prog 257 #[.pointer (some ⟨a,0,none⟩),.string E] w fun e w'=>e=.returned (.tuple #[.string ⟨#[]⟩,.bool false])∧DR w' a s p n c∧w.grownBy w' (some a):=by
 refine(rB E q hE a s p n c w hs h).mono fun e w' ⟨h1,h2,h3⟩=>?_
 rw[GN hh.out] at h1 h2
 exact⟨h1,h2,h3⟩
theorem cu {E:BA}{q:UInt8→Bool}(hE:∀ d,(bl E).contains d=!q d)(t r:LU)(a:Nat)(s:BA)(p n:Nat)(c:Int)(w:World)(hs:s.size≤4294967280)(h:DR w a s p n c)(hh:Hid (kU q ((bl s).drop p)=some (t,r))):
  Calls Tryz.prog 257 #[.pointer (some ⟨a,0,none⟩),.string E] w fun e w'=>e=.returned (.tuple #[.string (bG t),.bool true])∧DR w' a s (p+t.length) n c∧w.grownBy w' (some a):=by
 refine(rB E q hE a s p n c w hs h).mono fun e w' ⟨h1,h2,h3⟩=>?_
 obtain⟨g1,g2,g3,g4⟩:=dz h.le hh.out
 obtain⟨k1,k2,k3⟩:=nQ hh.out
 rw[←k2,dT k1] at h1
 rw[←g1] at h2
 exact⟨h1,h2,h3⟩
def GO (t:LU)(a:Nat)(s:BA)(p n:Nat)(c:Int)(w:World)(e:Ending)(w':World):Prop:=
 e=.returned (.tuple #[.string (bG t),.bool true])∧(∃ c',DR w' a s (p+t.length) n c'∧(c'=0↔c=0∧cQ t=true))∧w.grownBy w' (some a)
theorem ic (a:Nat)(s:BA)(p n:Nat)(c:Int)(w:World)(hs:s.size≤4294967280)(h:DR w a s p n c)(hh:Hid (kU ip ((bl s).drop p)=none)):
  Calls Tryz.prog 259 #[.pointer (some ⟨a,0,none⟩)] w fun e w'=>e=.returned (.tuple #[.string ⟨#[]⟩,.bool false])∧DR w' a s p n c∧w.grownBy w' (some a):=by
 obtain⟨f,y,k⟩:=h.cells
 have c1:=k.c1
 have HD:=ae h;clear h k
 go_enter Tryz.func259,Tryz.ntmps259
 go_wp2_with fail
 refine(cI rC a s p n c w hs HD.out hh).mono ?_;rintro e w1 ⟨rfl,hd,hg⟩
 have HD1:=ae hd;have HG1:=ae hg
 clear hd hg c1
 go_wp2_with fail
 go_ret2
 exact⟨rfl,HD1.out,HG1.out⟩
theorem ie (t r:LU)(a:Nat)(s:BA)(p n:Nat)(c:Int)(w:World)(hs:s.size≤4294967280)(h:DR w a s p n c)(hh:Hid (kU ip ((bl s).drop p)=some (t,r))):
  Calls Tryz.prog 259 #[.pointer (some ⟨a,0,none⟩)] w (GO t a s p n c w):=by
 obtain⟨f,y,k⟩:=h.cells
 have c1:=k.c1
 have hz:(bG t).size≤s.size:=by have:=(dz h.le hh.out).2.2.2;rw[bV];omega
 have HD:=ae h;clear h k
 have hW:=fun W=>oN (bG t) W (by omega)
 rw[et] at hW
 cases hd:cQ t with
 | true=>
  rw[hd] at hW
  have HT:=ae hd;clear hd
  go_enter Tryz.func259,Tryz.ntmps259
  go_wp2_with fail
  refine(cu rC t r a s p n c w hs HD.out hh).mono ?_;rintro e w1 ⟨rfl,hd,hg⟩
  have HD1:=ae hd;have HG1:=ae hg
  clear hd hg c1
  go_wp2_with fail
  refine(hW _).mono ?_;rintro e w' ⟨rfl,rfl⟩
  go_wp2_with fail
  go_ret2
  exact⟨rfl,⟨c,HD1.out,by simp[HT.out]⟩,HG1.out⟩
 | false=>
  rw[hd] at hW
  have HT:=ae hd;clear hd
  go_enter Tryz.func259,Tryz.ntmps259
  go_wp2_with fail
  refine(cu rC t r a s p n c w hs HD.out hh).mono ?_;rintro e w1 ⟨rfl,hd,hg⟩
  have HD1:=ae hd;have HG1:=ae hg
  clear hd hg c1
  go_wp2_with fail
  refine(hW _).mono ?_;rintro e w' ⟨rfl,rfl⟩
  go_wp2_with fail
  refine(fA _ 10 a s _ n c w1 HD1.out).mono ?_;rintro e w2 ⟨rfl,hd,hg⟩
  have HD2:=ae hd;have HG2:=ae hg
  clear hd hg
  go_wp2_with fail
  go_ret2
  exact⟨rfl,⟨_,HD2.out,by rw[eB,HT.out];simp⟩,aj HG1.out HG2.out⟩
end
end Go.Proofs.YtlglfpbhapmhiaaGreatDoor
