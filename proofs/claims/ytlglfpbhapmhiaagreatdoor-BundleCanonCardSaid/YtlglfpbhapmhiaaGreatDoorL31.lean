/- A part of the proof. -/
import Derived.Test.YtlglfpbhapmhiaaGreatDoorL27
import Derived.Test.YtlglfpbhapmhiaaGreatDoorL30
set_option maxRecDepth 100000
set_option maxHeartbeats 20000000
set_option linter.unusedVariables false
set_option linter.unusedSimpArgs false
namespace Go.Proofs.YtlglfpbhapmhiaaGreatDoor
section
open Go.RowKit Go.Deep
def Om (fo no:Bool)(ev:Int)(ao so ndo bo go:Bool)(fe:BA×Int)(se:Int):BA×Int:=
 if fo=false then (⟨#[102,111,114,109,97,116]⟩,9) else if no=false then (⟨#[110,97,109,101]⟩,10) else if ev≠0 then (⟨#[118,101,114,115,105,111,110]⟩,ev) else if ao=false then (⟨#[97,114,99,104]⟩,1) else if so=false then (⟨#[115,117,109,109,97,114,121]⟩,3)
 else if ndo=false then (⟨#[110,101,101,100,115]⟩,3) else if bo=false then (⟨#[98,97,114,115]⟩,3) else if go=false then (⟨#[103,105,118,101,115]⟩,3) else if fe.2≠0 then fe else (⟨#[115,99,114,105,112,116,115]⟩,se)
theorem MI (nm:BA)(fo no:Bool)(ev:Int)(ao so ndo bo go:Bool)(fe:BA×Int)(se:Int):
  kI nm fo no ev ao so ndo bo go fe.1 fe.2 se=if (Om fo no ev ao so ndo bo go fe se).2=0 then eh ⟨#[]⟩ ⟨#[]⟩ 0 else eh nm (Om fo no ev ao so ndo bo go fe se).1 (Om fo no ev ao so ndo bo go fe se).2:=by
 unfold kI Om;by_cases hv:ev=0
 ·subst hv;cases fo
  ·rfl
  cases no
  ·rfl
  cases ao
  ·rfl
  cases so
  ·rfl
  cases ndo
  ·rfl
  cases bo
  ·rfl
  cases go
  ·rfl
  by_cases hf:fe.2=0
  ·by_cases hs:se=0
   ·simp[hf,hs]
   ·simp[hf,hs]
  ·simp[hf]
 ·cases fo
  ·rfl
  cases no
  ·rfl
  simp[hv]
structure bK.small (p:bK):Prop where
 nm:p.nm.size<=1000000
 ver:p.ver.size<=1000000
 ar:p.ar.size<=1000000
 sm:p.sm.size<=1000000
 needs:p.needs.length<=1000000
 bars:p.bars.length<=1000000
 gives:p.gives.length<=1000000
 files:p.files.length<=1000000
 scripts:p.scripts.length<=1000000
 needs_:∀ s∈p.needs,s.size<=1000000
 bars_:∀ s∈p.bars,s.size<=1000000
 gives_:∀ x∈p.gives,x.nm.size<=4294967280/\x.ver.size<=4294967280
 files_:∀ x∈p.files,x.path.size<=4294967280/\x.owner.size<=4294967280/\x.group.size<=4294967280/\x.link.size<=4294967280/\x.sum.size<=4294967280
 scripts_:∀ x∈p.scripts,x.body.size<=4294967280
theorem nP {α:Type}(f:α->Nat):∀ (l:List α),(∀ x∈l,f x<=(l.map f).sum)
 | [],x,h=>by simp at h
 | a::r,x,h=>by
  simp only[List.map_cons,List.sum_cons];rcases List.mem_cons.1 h with rfl | h
  ·omega
  ·have:=nP f r x h;omega
theorem ik {α:Type}(f:α->Nat)(hf:∀ x,1<=f x):∀ (l:List α),l.length<=(l.map f).sum
 | []=>by simp
 | a::r=>by simp only[List.map_cons,List.sum_cons,List.length_cons];have:=ik f hf r;have:=hf a;omega
theorem bK.small_of {p:bK}(h:DP p<=1000000):p.small:=by
 unfold DP eu cX fZ iH gi at h;have a1:=ik (fun s:BA=>1+s.size) (fun _=>by omega) p.needs;have a2:=ik (fun s:BA=>1+s.size) (fun _=>by omega) p.bars;have a3:=ik (fun x:cS=>1+x.nm.size+x.ver.size) (fun _=>by omega) p.gives;have a4:=ik (fun x:av=>1+x.path.size+x.owner.size+x.group.size+x.link.size+x.sum.size) (fun _=>by omega) p.files;have a5:=ik (fun x:aT=>1+x.body.size) (fun _=>by omega) p.scripts;refine⟨by omega,by omega,by omega,by omega,by omega,by omega,by omega,by omega,by omega,fun s hs=>?_,fun s hs=>?_,fun s hs=>?_,fun s hs=>?_,fun s hs=>?_⟩
 ·have:=nP (fun s:BA=>1+s.size) p.needs s hs;omega
 ·have:=nP (fun s:BA=>1+s.size) p.bars s hs;omega
 ·have:=nP (fun x:cS=>1+x.nm.size+x.ver.size) p.gives s hs;constructor<;>omega
 ·have:=nP (fun x:av=>1+x.path.size+x.owner.size+x.group.size+x.link.size+x.sum.size) p.files s hs;refine⟨?_,?_,?_,?_,?_⟩<;>omega
 ·have:=nP (fun x:aT=>1+x.body.size) p.scripts s hs;omega
def On (fmt:Int):LU->Bool:=if fmt=1 then kk else if fmt=2 then ko else kj
theorem Ho (fmt:Int):On fmt []=false:=by unfold On;(repeat' split)<;>rfl
theorem kM (fmt:Int)(s:BA)(w:World)(hG:zL w)(hs:s.size<=1000000):Calls Tryz.prog 84 #[.int .i64 fmt,.string s] w (uV s (On fmt (bl s)) w):=by
 unfold On;by_cases h1:fmt=1
 ·subst h1;exact uW s w hG.1 hs
 ·by_cases h2:fmt=2
  ·subst h2;exact vB s w hG.1 hs
  ·rw[if_neg h1,if_neg h2];exact uX fmt h1 h2 s w hG hs
theorem CH {n:Int}(h:wK n=true):n=1\/n=2\/n=3:=dO h
def il (fmt:Int)(p:bK):BA×Int:=
 Om (wK fmt) (fg (bl p.nm)) (dm fmt p.ver) (tV fmt p.ar) (zr (bl p.sm)) (ig fmt false (On fmt) p.needs) (ig fmt true (On fmt) p.bars) (mq fmt p.gives) (gw fmt p.files) (fK fmt p.scripts)
theorem Ad (fmt:Int)(p:bK)(w:World)(h:wK fmt=false):Calls Tryz.prog 15 #[.int .i64 fmt,p.val] w fun e w'=>e=.returned (Hn p.nm (il fmt p))/\Below w.heap.size w w':=by
 have E:Hid (Hn p.nm (il fmt p)=eh p.nm ⟨#[102,111,114,109,97,116]⟩ 9):=by show _=_;unfold il Om;rw[if_pos h];rfl
 generalize Hn p.nm (il fmt p)=V at *;have hI:=fun W=>lB fmt W;rw[h] at hI;clear h;unfold bK.val;go_in;go_wp2_with fail;refine(hI _).mono ?_;rintro e w1 ⟨rfl,hb1⟩;have B1:=pB.start w p.nm p.ver p.ar p.sm _ _ _ _ _ hb1;clear hb1;have HB1:=ae B1;have hsz:=B1.sz;go_wp2_with fail;refine(bh _ p.nm _ _ w1 B1.c0 rfl (by show w.heap.size<_;omega)).mono ?_;rintro e w2 ⟨rfl,hb2⟩;have B2:=B1.step hb2;have HB2:=ae B2;obtain⟨bel,sz,c0,c1,c2,c3,c4,c5,c6,c7,c8,r0,r1,r2,f0,f1,f2⟩:=B2;unfold eh;go_wp2_with fail;refine bodyPost_ret (v:=eh p.nm ⟨#[102,111,114,109,97,116]⟩ 9) (dM _ HB2.out rfl _ _ _) rfl ?_;exact⟨by rw[E.out],eS HB2.out _ _ _⟩
theorem qj (fmt:Int)(p:bK)(w:World)(hG:zL w)(hp:p.ok w)(hs:p.small):Calls Tryz.prog 15 #[.int .i64 fmt,p.val] w fun e w'=>e=.returned (Hn p.nm (il fmt p))/\Below w.heap.size w w':=by
 cases h:wK fmt with
 | false=>exact Ad fmt p w h
 | true=>
  have hf:=CH h;have g1:∀ {a b:Nat},a<=1000000->b=a->b<=9223372036854775807:=fun h1 h2=>by omega
  have:=oQ fmt p.nm p.ver p.ar p.sm p.na p.ba p.ga p.fa p.sa p.needs.length p.nc p.bars.length p.bc p.gives.length p.gc p.files.length p.fc p.scripts.length p.sc w (dm fmt p.ver) (gw fmt p.files).2 (fK fmt p.scripts) (ig fmt false (On fmt) p.needs) (ig fmt true (On fmt) p.bars) (mq fmt p.gives) (gw fmt p.files).1 (g1 hs.nm rfl) (g1 hs.sm rfl)
   (ae fun w1 hb=>aZ fmt p.ver w1 (hG.1.below hb) (g1 hs.ver rfl))
   (ae fun w1 hb=>lL fmt false (On fmt) (Ho fmt) p.na p.nc p.needs w1 (hG.below hb) (hp.needs.below hb) (by have:=hs.needs;omega) (fun x hx W hW=>kM fmt x W hW (hs.needs_ x hx)))
   (ae fun w1 hb=>lL fmt true (On fmt) (Ho fmt) p.ba p.bc p.bars w1 (hG.below hb) (hp.bars.below hb) (by have:=hs.bars;omega) (fun x hx W hW=>kM fmt x W hW (hs.bars_ x hx)))
   (ae fun w1 hb=>rh fmt p.ga p.gc p.gives w1 (hG.1.below hb) (hp.gives.below hb) (g1 hs.gives rfl) hs.gives_)
   (ae fun w1 hb=>rj fmt hf p.fa p.fc p.files w1 (hG.1.below hb) (hp.files.below hb) (g1 hs.files rfl) hs.files_)
   (ae fun w1 hb=>pd fmt hf p.sa p.sc p.scripts w1 (hp.scripts.below hb) (g1 hs.scripts rfl) hs.scripts_)
  refine this.mono fun e w' ⟨he,hb⟩=>⟨?_,hb⟩
  rw[he,MI];rfl
end
end Go.Proofs.YtlglfpbhapmhiaaGreatDoor
