/- A part of the proof that ModelChecks holds. No condition. -/
import Derived.Test.YtdfdllbebfoggaaGreatDoorD47
set_option maxRecDepth 100000
set_option maxHeartbeats 20000000
set_option linter.unusedVariables false
set_option linter.unusedSimpArgs false
namespace Go.Proofs.YtdfdllbebfoggaaGreatDoor
section
open Go.RowKit Go.Deep
structure PkL.small (p:PkL):Prop where
 nm:p.nm.size≤1000000
 ver:p.ver.size≤1000000
 ar:p.ar.size≤1000000
 sm:p.sm.size≤1000000
 needs:p.needs.length≤1000000
 bars:p.bars.length≤1000000
 gives:p.gives.length≤1000000
 files:p.files.length≤1000000
 scripts:p.scripts.length≤1000000
 needs_:∀ s∈p.needs,s.size≤1000000
 bars_:∀ s∈p.bars,s.size≤1000000
 gives_:∀ x∈p.gives,x.nm.size≤4294967280∧x.ver.size≤4294967280
 files_:∀ x∈p.files,x.path.size≤4294967280∧x.owner.size≤4294967280∧x.group.size≤4294967280∧x.link.size≤4294967280∧x.sum.size≤4294967280
 scripts_:∀ x∈p.scripts,x.body.size≤4294967280
theorem sum_all {α:Type}(f:α→Nat):∀ (l:List α),(∀ x∈l,f x≤(l.map f).sum)
 | [],x,h=>by simp at h
 | a::r,x,h=>by
  simp only[List.map_cons,List.sum_cons]
  rcases List.mem_cons.1 h with rfl | h
  ·omega
  ·have:=sum_all f r x h;omega
theorem sum_len {α:Type}(f:α→Nat)(hf:∀ x,1≤f x):∀ (l:List α),l.length≤(l.map f).sum
 | []=>by simp
 | a::r=>by simp only[List.map_cons,List.sum_cons,List.length_cons];have:=sum_len f hf r;have:=hf a;omega
theorem PkL.small_of {p:PkL}(h:wsum p≤1000000):p.small:=by
 unfold wsum wTexts wStrs wAtoms wFiles wScripts at h
 have a1:=sum_len (fun s:BA=>1+s.size) (fun _=>by omega) p.needs
 have a2:=sum_len (fun s:BA=>1+s.size) (fun _=>by omega) p.bars
 have a3:=sum_len (fun x:AtomM=>1+x.nm.size+x.ver.size) (fun _=>by omega) p.gives
 have a4:=sum_len (fun x:FileM=>1+x.path.size+x.owner.size+x.group.size+x.link.size+x.sum.size) (fun _=>by omega) p.files
 have a5:=sum_len (fun x:ScriptM=>1+x.body.size) (fun _=>by omega) p.scripts
 refine⟨by omega,by omega,by omega,by omega,by omega,by omega,by omega,by omega,by omega,fun s hs=>?_,fun s hs=>?_,fun s hs=>?_,fun s hs=>?_,fun s hs=>?_⟩
 ·have:=sum_all (fun s:BA=>1+s.size) p.needs s hs;omega
 ·have:=sum_all (fun s:BA=>1+s.size) p.bars s hs;omega
 ·have:=sum_all (fun x:AtomM=>1+x.nm.size+x.ver.size) p.gives s hs;constructor<;>omega
 ·have:=sum_all (fun x:FileM=>1+x.path.size+x.owner.size+x.group.size+x.link.size+x.sum.size) p.files s hs;refine⟨?_,?_,?_,?_,?_⟩<;>omega
 ·have:=sum_all (fun x:ScriptM=>1+x.body.size) p.scripts s hs;omega
def wrF (fmt:Int):LU→Bool:=if fmt=1 then writtenD else if fmt=2 then writtenR else writtenA
theorem wrF_nil (fmt:Int):wrF fmt []=false:=by unfold wrF;repeat' split
                                               all_goals rfl
theorem model_written_any (fmt:Int)(s:BA)(w:World)(hG:GlE w)(hs:s.size≤1000000):
  Calls Tryz.prog 61 #[.int .i64 fmt,.string s] w (WrPost s (wrF fmt (bl s)) w):=by
 unfold wrF
 by_cases h1:fmt=1
 ·subst h1;exact model_written1 s w hG.1 hs
 ·by_cases h2:fmt=2
  ·subst h2;exact model_written2 s w hG.1 hs
  ·rw[if_neg h1,if_neg h2];exact model_written3 fmt h1 h2 s w hG hs
theorem r19_Written_any (fmt:Int)(s:BA)(w:World)(hs:s.size≤1000000):
  Calls Tryz.prog 101 #[.int .i64 fmt,.string s] w fun e w'=>e=.returned (.bool (wrF fmt (bl s)))∧Below w.heap.size w w':=by
 unfold wrF
 by_cases h1:fmt=1
 ·subst h1;exact r19_Written1 s w hs
 ·by_cases h2:fmt=2
  ·subst h2;exact r19_Written2 s w hs
  ·rw[if_neg h1,if_neg h2];exact r19_Written3 fmt h1 h2 s w hs
theorem r19_gives_any (fmt:Int)(hfmt:fmt=1∨fmt=2∨fmt=3)(A:Option Addr)(c:Nat)(l:List AtomM)(w:World)(hr:Rd w 3 A l.length (l.flatMap AtomM.cells))(hn:l.length≤9223372036854775807)(hf:∀ x∈l,x.nm.size≤4294967280∧x.ver.size≤4294967280):
  Calls Tryz.prog 73 #[.int .i64 fmt,.slice A l.length c] w fun e w'=>e=.returned (.bool (givesB fmt l))∧Below w.heap.size w w':=by
 rcases hfmt with rfl | rfl | rfl
 ·exact r19_gives1 A c l w hr hn hf
 ·exact r19_gives2 A c l w hr hn hf
 ·exact r19_gives3 A c l w hr hn hf
theorem fmtB_iff {n:Int}(h:fmtB n=true):n=1∨n=2∨n=3:=dO h
def pkAll (fmt:Int)(p:PkL):BA×Int:=
 pkW (fmtB fmt) (dnameB (bl p.nm)) (verE fmt p.ver) (archIn fmt p.ar) (sumB (bl p.sm)) (textsB fmt false (wrF fmt) p.needs) (textsB fmt true (wrF fmt) p.bars) (givesB fmt p.gives) (filesAns fmt p.files) (scriptsE fmt p.scripts)
theorem model_cp_bad (fmt:Int)(p:PkL)(w:World)(h:fmtB fmt=false):
  Calls Tryz.prog 10 #[.int .i64 fmt,p.val] w fun e w'=>e=.returned (ckV p.nm (pkAll fmt p))∧Below w.heap.size w w':=by
 have E:Hid (ckV p.nm (pkAll fmt p)=refV p.nm ⟨#[102,111,114,109,97,116]⟩ 9):=by show _=_;unfold pkAll pkW;rw[if_pos h];rfl
 generalize ckV p.nm (pkAll fmt p)=V at *
 have hI:=fun W=>model_isFormat_b fmt W
 rw[h] at hI
 clear h
 unfold PkL.val
 go_enter Tryz.func10,Tryz.ntmps10
 go_wp2_with fail
 refine(hI _).mono ?_;rintro e w1 ⟨rfl,hb1⟩
 have B1:=CpBox.start w p.nm p.ver p.ar p.sm _ _ _ _ _ hb1
 clear hb1
 have HB1:=hid B1
 have hsz:=B1.sz
 go_wp2_with fail
 refine(model_CheckPackage1 _ p.nm _ _ w1 B1.c0 rfl (by show w.heap.size<_;omega)).mono ?_;rintro e w2 ⟨rfl,hb2⟩
 have B2:=B1.step hb2
 have HB2:=hid B2
 obtain⟨bel,sz,c0,c1,c2,c3,c4,c5,c6,c7,c8,r0,r1,r2,f0,f1,f2⟩:=B2
 unfold refV
 go_wp2_with fail
 refine bodyPost_ret (v:=refV p.nm ⟨#[102,111,114,109,97,116]⟩ 9) (cp_result _ HB2.out rfl _ _ _) rfl ?_
 exact⟨by rw[E.out],cp_below HB2.out _ _ _⟩
theorem model_cp_all (fmt:Int)(p:PkL)(w:World)(hG:GlE w)(hp:p.ok w)(hs:p.small):
  Calls Tryz.prog 10 #[.int .i64 fmt,p.val] w fun e w'=>e=.returned (ckV p.nm (pkAll fmt p))∧Below w.heap.size w w':=by
 cases h:fmtB fmt with
 | false=>exact model_cp_bad fmt p w h
 | true=>
  have hf:=fmtB_iff h
  have g1:∀ {a b:Nat},a≤1000000→b=a→b≤9223372036854775807:=fun h1 h2=>by omega
  have:=model_CheckPackage fmt p.nm p.ver p.ar p.sm p.na p.ba p.ga p.fa p.sa p.needs.length p.nc p.bars.length p.bc p.gives.length p.gc p.files.length p.fc p.scripts.length p.sc w (verE fmt p.ver) (filesAns fmt p.files).2 (scriptsE fmt p.scripts) (textsB fmt false (wrF fmt) p.needs) (textsB fmt true (wrF fmt) p.bars) (givesB fmt p.gives) (filesAns fmt p.files).1 (g1 hs.nm rfl) (g1 hs.sm rfl)
   (hid fun w1 hb=>version_Check_any fmt p.ver w1 (hG.1.below hb) (g1 hs.ver rfl))
   (hid fun w1 hb=>model_textsRight fmt false (wrF fmt) (wrF_nil fmt) p.na p.nc p.needs w1 (hG.below hb) (hp.needs.below hb) (by have:=hs.needs;omega) (fun x hx W hW=>model_written_any fmt x W hW (hs.needs_ x hx)))
   (hid fun w1 hb=>model_textsRight fmt true (wrF fmt) (wrF_nil fmt) p.ba p.bc p.bars w1 (hG.below hb) (hp.bars.below hb) (by have:=hs.bars;omega) (fun x hx W hW=>model_written_any fmt x W hW (hs.bars_ x hx)))
   (hid fun w1 hb=>model_givesRight fmt p.ga p.gc p.gives w1 (hG.1.below hb) (hp.gives.below hb) (g1 hs.gives rfl) hs.gives_)
   (hid fun w1 hb=>model_checkFiles fmt hf p.fa p.fc p.files w1 (hG.1.below hb) (hp.files.below hb) (g1 hs.files rfl) hs.files_)
   (hid fun w1 hb=>model_checkScripts fmt hf p.sa p.sc p.scripts w1 (hp.scripts.below hb) (g1 hs.scripts rfl) hs.scripts_)
  refine this.mono fun e w' ⟨he,hb⟩=>⟨?_,hb⟩
  rw[he,cp_of_pk];rfl
theorem ref_cp_all (fmt:Int)(p:PkL)(w:World)(hp:p.ok w)(hs:p.small):
  Calls Tryz.prog 11 #[.int .i64 fmt,p.val] w fun e w'=>e=.returned (ckV p.nm (pkAll fmt p))∧Below w.heap.size w w':=by
 have g1:∀ {a:Nat},a≤1000000→a≤4294967280:=fun h1=>by omega
 refine r19_CheckPackage fmt p w (pkAll fmt p) fun W hb=>?_
 have:=r19_Package fmt p W (hp.below hb) (g1 hs.nm) (g1 hs.ver) (g1 hs.sm) (g1 hs.bars) (g1 hs.files) hs.files_ (g1 hs.scripts) hs.scripts_ (textsR fmt (wrF fmt) p.needs) (textsR fmt (wrF fmt) p.bars) (givesB fmt p.gives)
  (fun _ W' hb'=>r19_texts fmt (wrF fmt) p.na p.nc p.needs W' ((hp.below hb).needs.below hb') (g1 hs.needs) (fun x hx W''=>r19_Written_any fmt x W'' (hs.needs_ x hx)))
  (fun _ W' hb'=>r19_texts fmt (wrF fmt) p.ba p.bc p.bars W' ((hp.below hb).bars.below hb') (g1 hs.bars) (fun x hx W''=>r19_Written_any fmt x W'' (hs.bars_ x hx)))
  (fun hf W' hb'=>r19_gives_any fmt (fmtB_iff hf) p.ga p.gc p.gives W' ((hp.below hb).gives.below hb') (by have:=hs.gives;omega) hs.gives_)
 refine this.mono fun e w' ⟨he,hb⟩=>⟨?_,hb⟩
 rw[he,←texts_needs,←texts_bars];rfl
end
end Go.Proofs.YtdfdllbebfoggaaGreatDoor
