/- A part of the proof. -/
import Derived.Test.YtaohgmcbpafdeaaGreatDoorA38
import Derived.Test.YtaohgmcbpafdeaaGreatDoorA40
set_option maxRecDepth 100000
set_option maxHeartbeats 20000000
set_option linter.unusedVariables false
set_option linter.unusedSimpArgs false
namespace Go.Proofs.YtaohgmcbpafdeaaGreatDoor
section
open Go.RowKit Go.Deep
def MH (fo no:Bool)(ev:Int)(ao so ndo bo go:Bool)(fe:BA×Int)(se:Int):BA×Int:=
 if fo=false then (⟨#[102,111,114,109,97,116]⟩,9) else if no=false then (⟨#[110,97,109,101]⟩,10) else if ev≠0 then (⟨#[118,101,114,115,105,111,110]⟩,ev) else if ao=false then (⟨#[97,114,99,104]⟩,1) else if so=false then (⟨#[115,117,109,109,97,114,121]⟩,3)
 else if ndo=false then (⟨#[110,101,101,100,115]⟩,3) else if bo=false then (⟨#[98,97,114,115]⟩,3) else if go=false then (⟨#[103,105,118,101,115]⟩,3) else if fe.2≠0 then fe else (⟨#[115,99,114,105,112,116,115]⟩,se)
theorem JN (nm:BA)(fo no:Bool)(ev:Int)(ao so ndo bo go:Bool)(fe:BA×Int)(se:Int):
  jj nm fo no ev ao so ndo bo go fe.1 fe.2 se=if (MH fo no ev ao so ndo bo go fe se).2=0 then eS ⟨#[]⟩ ⟨#[]⟩ 0 else eS nm (MH fo no ev ao so ndo bo go fe se).1 (MH fo no ev ao so ndo bo go fe se).2:=by
 unfold jj MH
 by_cases hv:ev=0
 ·subst hv
  cases fo
  ·rfl
  cases no
  ·rfl
  cases ao
  ·rfl
  cases so
  ·rfl
  cases ndo
  ·rfl
  cases bo
  ·rfl
  cases go
  ·rfl
  by_cases hf:fe.2=0
  ·by_cases hs:se=0
   ·simp[hf,hs]
   ·simp[hf,hs]
  ·simp[hf]
 ·cases fo
  ·rfl
  cases no
  ·rfl
  simp[hv]
structure bJ.small (p:bJ):Prop where
 nm:p.nm.size≤1000000
 ver:p.ver.size≤1000000
 ar:p.ar.size≤1000000
 sm:p.sm.size≤1000000
 needs:p.needs.length≤1000000
 bars:p.bars.length≤1000000
 gives:p.gives.length≤1000000
 files:p.files.length≤1000000
 scripts:p.scripts.length≤1000000
 needs_:∀ s∈p.needs,s.size≤1000000
 bars_:∀ s∈p.bars,s.size≤1000000
 gives_:∀ x∈p.gives,x.nm.size≤4294967280∧x.ver.size≤4294967280
 files_:∀ x∈p.files,x.path.size≤4294967280∧x.owner.size≤4294967280∧x.group.size≤4294967280∧x.link.size≤4294967280∧x.sum.size≤4294967280
 scripts_:∀ x∈p.scripts,x.body.size≤4294967280
theorem iy {α:Type}(f:α→Nat):∀ (l:List α),(∀ x∈l,f x≤(l.map f).sum)
 | [],x,h=>by simp at h
 | a::r,x,h=>by
  simp only[List.map_cons,List.sum_cons]
  rcases List.mem_cons.1 h with rfl | h
  ·omega
  ·have:=iy f r x h;omega
theorem kw {α:Type}(f:α→Nat)(hf:∀ x,1≤f x):∀ (l:List α),l.length≤(l.map f).sum
 | []=>by simp
 | a::r=>by simp only[List.map_cons,List.sum_cons,List.length_cons];have:=kw f hf r;have:=hf a;omega
theorem bJ.small_of {p:bJ}(h:jB p≤1000000):p.small:=by
 unfold jB dn bY eA cT eC at h
 have a1:=kw (fun s:BA=>1+s.size) (fun _=>by omega) p.needs
 have a2:=kw (fun s:BA=>1+s.size) (fun _=>by omega) p.bars
 have a3:=kw (fun x:et=>1+x.nm.size+x.ver.size) (fun _=>by omega) p.gives
 have a4:=kw (fun x:av=>1+x.path.size+x.owner.size+x.group.size+x.link.size+x.sum.size) (fun _=>by omega) p.files
 have a5:=kw (fun x:bd=>1+x.body.size) (fun _=>by omega) p.scripts
 refine⟨by omega,by omega,by omega,by omega,by omega,by omega,by omega,by omega,by omega,fun s hs=>?_,fun s hs=>?_,fun s hs=>?_,fun s hs=>?_,fun s hs=>?_⟩
 ·have:=iy (fun s:BA=>1+s.size) p.needs s hs;omega
 ·have:=iy (fun s:BA=>1+s.size) p.bars s hs;omega
 ·have:=iy (fun x:et=>1+x.nm.size+x.ver.size) p.gives s hs;constructor<;>omega
 ·have:=iy (fun x:av=>1+x.path.size+x.owner.size+x.group.size+x.link.size+x.sum.size) p.files s hs;refine⟨?_,?_,?_,?_,?_⟩<;>omega
 ·have:=iy (fun x:bd=>1+x.body.size) p.scripts s hs;omega
def GR (fmt:Int):LU→Bool:=if fmt=1 then iU else if fmt=2 then iW else iT
theorem Ej (fmt:Int):GR fmt []=false:=by       unfold GR;repeat' split
                                               all_goals rfl
theorem jp (fmt:Int)(s:BA)(w:World)(hG:BV w)(hs:s.size≤1000000):
  Calls Tryz.prog 79 #[.int .i64 fmt,.string s] w (sZ s (GR fmt (bl s)) w):=by
 unfold GR
 by_cases h1:fmt=1
 ·subst h1;exact td s w hG.1 hs
 ·by_cases h2:fmt=2
  ·subst h2;exact tM s w hG.1 hs
  ·rw[if_neg h1,if_neg h2];exact th fmt h1 h2 s w hG hs
theorem Aj {n:Int}(h:jg n=true):n=1∨n=2∨n=3:=dO h
def fT (fmt:Int)(p:bJ):BA×Int:=
 MH (jg fmt) (dy (bl p.nm)) (cG fmt p.ver) (kO fmt p.ar) (rE (bl p.sm)) (eH fmt false (GR fmt) p.needs) (eH fmt true (GR fmt) p.bars) (jb fmt p.gives) (cM fmt p.files) (dE fmt p.scripts)
theorem xK (fmt:Int)(p:bJ)(w:World)(h:jg fmt=false):
  Calls Tryz.prog 30 #[.int .i64 fmt,p.val] w fun e w'=>e=.returned (MG p.nm (fT fmt p))∧Below w.heap.size w w':=by
 have E:Hid (MG p.nm (fT fmt p)=eS p.nm ⟨#[102,111,114,109,97,116]⟩ 9):=by show _=_;unfold fT MH;rw[if_pos h];rfl
 generalize MG p.nm (fT fmt p)=V at *
 have hI:=fun W=>jG fmt W
 rw[h] at hI
 clear h
 unfold bJ.val
 go_enter Tryz.func30,Tryz.ntmps30
 go_wp2_with fail
 refine(hI _).mono ?_;rintro e w1 ⟨rfl,hb1⟩
 have B1:=nO.start w p.nm p.ver p.ar p.sm _ _ _ _ _ hb1
 clear hb1
 have HB1:=ae B1
 have hsz:=B1.sz
 go_wp2_with fail
 refine(aS _ p.nm _ _ w1 B1.c0 rfl (by show w.heap.size<_;omega)).mono ?_;rintro e w2 ⟨rfl,hb2⟩
 have B2:=B1.step hb2
 have HB2:=ae B2
 obtain⟨bel,sz,c0,c1,c2,c3,c4,c5,c6,c7,c8,r0,r1,r2,f0,f1,f2⟩:=B2
 unfold eS
 go_wp2_with fail
 refine bodyPost_ret (v:=eS p.nm ⟨#[102,111,114,109,97,116]⟩ 9) (cW _ HB2.out rfl _ _ _) rfl ?_
 exact⟨by rw[E.out],dP HB2.out _ _ _⟩
theorem xL (fmt:Int)(p:bJ)(w:World)(hG:BV w)(hp:p.ok w)(hs:p.small):
  Calls Tryz.prog 30 #[.int .i64 fmt,p.val] w fun e w'=>e=.returned (MG p.nm (fT fmt p))∧Below w.heap.size w w':=by
 cases h:jg fmt with
 | false=>exact xK fmt p w h
 | true=>
  have hf:=Aj h
  have g1:∀ {a b:Nat},a≤1000000→b=a→b≤9223372036854775807:=fun h1 h2=>by omega
  have:=mS fmt p.nm p.ver p.ar p.sm p.na p.ba p.ga p.fa p.sa p.needs.length p.nc p.bars.length p.bc p.gives.length p.gc p.files.length p.fc p.scripts.length p.sc w (cG fmt p.ver) (cM fmt p.files).2 (dE fmt p.scripts) (eH fmt false (GR fmt) p.needs) (eH fmt true (GR fmt) p.bars) (jb fmt p.gives) (cM fmt p.files).1 (g1 hs.nm rfl) (g1 hs.sm rfl)
   (ae fun w1 hb=>aQ fmt p.ver w1 (hG.1.below hb) (g1 hs.ver rfl))
   (ae fun w1 hb=>jR fmt false (GR fmt) (Ej fmt) p.na p.nc p.needs w1 (hG.below hb) (hp.needs.below hb) (by have:=hs.needs;omega) (fun x hx W hW=>jp fmt x W hW (hs.needs_ x hx)))
   (ae fun w1 hb=>jR fmt true (GR fmt) (Ej fmt) p.ba p.bc p.bars w1 (hG.below hb) (hp.bars.below hb) (by have:=hs.bars;omega) (fun x hx W hW=>jp fmt x W hW (hs.bars_ x hx)))
   (ae fun w1 hb=>py fmt p.ga p.gc p.gives w1 (hG.1.below hb) (hp.gives.below hb) (g1 hs.gives rfl) hs.gives_)
   (ae fun w1 hb=>pz fmt hf p.fa p.fc p.files w1 (hG.1.below hb) (hp.files.below hb) (g1 hs.files rfl) hs.files_)
   (ae fun w1 hb=>nj fmt hf p.sa p.sc p.scripts w1 (hp.scripts.below hb) (g1 hs.scripts rfl) hs.scripts_)
  refine this.mono fun e w' ⟨he,hb⟩=>⟨?_,hb⟩
  rw[he,JN];rfl
theorem Al {fmt:Int}{p:bJ}(h:(fT fmt p).2=0):(cM fmt p.files).2=0:=by
 unfold fT at h
 generalize cM fmt p.files=fe at *
 by_cases hz:fe.2=0
 ·exact hz
 ·unfold MH at h
  (repeat' split at h)<;>simp_all
theorem Md {l:List bJ}{p:bJ}(h:p∈l):jB p≤lJ l:=by
 have:=iy (fun p:bJ=>1+jB p) l p h
 unfold lJ;omega
theorem Am (fmt:Int)(A:OA)(c:Nat)(l:List bJ)(w:World)(hG:BV w)(hd:oO w A l)(hl:l.length≤100000)(hwd:lJ l≤10000000)(hw:∀ p∈l,jB p≤1000000):
  Calls Tryz.prog 12 #[.int .i64 fmt,.slice A l.length c] w fun e w'=>e=.returned (Nt (yn (fT fmt) (jg fmt) l))∧Below w.heap.size w w':=by
 have hs:∀ p∈l,p.small:=fun p hp=>bJ.small_of (hw p hp)
 refine tQ fmt (fT fmt) A c l w hG.1 hd hl hwd (fun p hp=>⟨(hs p hp).files,fun x hx=>?_⟩) (fun p hp W hb hok=>xL fmt p W (hG.below hb) hok (hs p hp)) (fun p hp h=>Al h)
 have h1:=hw p hp
 unfold jB cT at h1
 have h2:=iy (fun x:av=>1+x.path.size+x.owner.size+x.group.size+x.link.size+x.sum.size) p.files x hx
 omega
end
end Go.Proofs.YtaohgmcbpafdeaaGreatDoor
