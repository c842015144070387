/- A part of the proof of a law on dependencies in three formats. No condition. -/
import Derived.Test.YtkjdbpjglobbjaaGreatDoorE04
set_option maxRecDepth 100000
set_option maxHeartbeats 20000000
set_option linter.unusedVariables false
set_option linter.unusedSimpArgs false
namespace Go.Proofs.YtkjdbpjglobbjaaGreatDoor
section
open Go.RowKit
theorem aO {fn:Func}{t u v x:Tmp}(h:fn.results=#[.tmp t,.tmp u,.tmp v,.tmp x])(tmps:Array Value)(P:Program)(w:World):
  (results fn tmps).run P w=.ok (.tuple #[tmps.getD t undef,tmps.getD u undef,tmps.getD v undef,tmps.getD x undef]) w:=by simp[results,h]
def cU (r:Option (LU×LU×LU))(w:World)(e:Ending)(w':World):Prop:=
 ∃ (ep pr rv:BA) (ok:Bool),e=.returned (.tuple #[.string ep,.string pr,.string rv,.bool ok])∧r=(if ok=true then some (bl ep,bl pr,bl rv) else none)∧ep.size≤64∧pr.size≤64∧rv.size≤64∧Below w.heap.size w w'
theorem cU.no {r:Option (LU×LU×LU)}{w w':World}(h:r=none)(hb:Below w.heap.size w w'):cU r w (.returned (.tuple #[.string ⟨#[]⟩,.string ⟨#[]⟩,.string ⟨#[]⟩,.bool false])) w':=
 ⟨_,_,_,_,rfl,h,by decide,by decide,by decide,hb⟩
theorem Ez (l:LU)(h:(Lib.cut l [58]).2.2=false):cE l=some ([],l):=by simp[cE,h]
theorem Lh (l:LU)(h:(Lib.cut l [58]).2.2=true)(h1:gV (Lib.cut l [58]).1=true)(h2:(Lib.cut l [58]).1.length≤9):cE l=some ((Lib.cut l [58]).1,(Lib.cut l [58]).2.1):=by simp[cE,h,h1,h2]
theorem Cz (l:LU)(h:(Lib.cut l [58]).2.2=true)(h1:¬ (gV (Lib.cut l [58]).1=true∧(Lib.cut l [58]).1.length≤9)):cE l=none:=by simp[cE,h,h1]
theorem jw (ep p:LU)(h:bU 45 p=none)(h1:aI [46,43,126,45] p=false∨ig p=false):(gW p).map (fun r=>(ep,r.1,r.2))=none:=by
 unfold gW;rw[h];rcases h1 with h1 | h1<;>simp[h1]
theorem nk (ep p:LU)(h:bU 45 p=none)(h1:aI [46,43,126,45] p=true)(h2:ig p=true):(gW p).map (fun r=>(ep,r.1,r.2))=some (ep,p,[]):=by
 unfold gW;rw[h];simp[h1,h2]
theorem fO (ep p:LU)(i:Nat)(h:bU 45 p=some i)(h1:aI [46,43,126] (p.drop (i+1))=false∨aI [46,43,126,45] (p.take i)=false∨ig (p.take i)=false):(gW p).map (fun r=>(ep,r.1,r.2))=none:=by
 unfold gW;rw[h];rcases h1 with h1 | h1 | h1<;>simp[h1]
theorem np (ep p:LU)(i:Nat)(h:bU 45 p=some i)(h0:aI [46,43,126] (p.drop (i+1))=true)(h1:aI [46,43,126,45] (p.take i)=true)(h2:ig (p.take i)=true):(gW p).map (fun r=>(ep,r.1,r.2))=some (ep,p.take i,p.drop (i+1)):=by
 unfold gW;rw[h];simp[h0,h1,h2]
theorem aK (s o:BA)(b:Bool)(w:World)(hs:s.size≤9223372036854775807)(h:Hid (aI (bl o) (bl s)=b)):
  Calls Tryz.prog 150 #[.string s,.string o] w fun e w'=>e=.returned (.bool b)∧Below w.heap.size w w':=by
 rw[←h.out];exact Cy s o w hs
theorem bd (s:BA)(b:Bool)(w:World)(hs:s.size≤9223372036854775807)(h:Hid (gV (bl s)=b)):
  Calls Tryz.prog 148 #[.string s] w fun e w'=>e=.returned (.bool b)∧w=w':=by
 rw[←h.out];exact vI s w hs
theorem pT (s:BA)(w:World)(hG:Gl w)(hs:s.size≤64)(hk:zx s ⟨#[58]⟩=false):
  Calls Tryz.prog 109 #[.string s] w (cU (fg (bl s)) w):=by
 have HG:=ae hG;clear hG
 have HE:Hid (fg (bl s)=(gW (bl s)).map fun r=>([],r.1,r.2)):=by
  show _=_;unfold fg;rw[Ez (bl s) hk]
 cases hl:bU 45 (bl s) with
 | none=>
  have HL:=ae hl;clear hl
  cases hm:aI [46,43,126,45] (bl s)
  ·have HM:=ae hm;clear hm
   go_enter Tryz.func109,Tryz.ntmps109
   go_wp2_with fail
   refine(cm s _ _ HG.out (by omega)).mono ?_;rintro e w1 ⟨rfl,hb1⟩
   go_wp2_with fail
   refine(fB s 45 _ (by omega) HL).mono ?_;rintro e w2 ⟨rfl,rfl⟩
   go_wp2_with fail
   refine(aK _ _ false _ (by omega) (by exact HM)).mono ?_;rintro e w2 ⟨rfl,hb2⟩
   go_wp2_with fail
   refine bodyPost_ret (aO rfl _ _ _) rfl ?_
   exact⟨⟨#[]⟩,s,⟨#[]⟩,false,rfl,by rw[HE.out,jw _ _ HL.out (.inl HM.out)];rfl,by decide,by omega,by decide,ah hb1 hb2⟩
  ·have HM:=ae hm
   have hp:=ki _ _ hm;clear hm
   go_enter Tryz.func109,Tryz.ntmps109
   go_wp2_with fail
   refine(cm s _ _ HG.out (by omega)).mono ?_;rintro e w1 ⟨rfl,hb1⟩
   go_wp2_with fail
   refine(fB s 45 _ (by omega) HL).mono ?_;rintro e w2 ⟨rfl,rfl⟩
   go_wp2_with fail
   refine(aK _ _ true _ (by omega) (by exact HM)).mono ?_;rintro e w2 ⟨rfl,hb2⟩
   go_wp2_with fail
   refine(cO s[0] _).mono ?_;rintro e w3 ⟨rfl,rfl⟩
   go_wp2_with fail
   refine bodyPost_ret (aO rfl _ _ _) rfl ?_
   refine⟨⟨#[]⟩,s,⟨#[]⟩,aD s[0],rfl,?_,by decide,by omega,by decide,ah hb1 hb2⟩
   rw[HE.out]
   cases hd:aD s[0]
   ·rw[jw _ _ HL.out (.inr (by rw[ei _ hp];exact hd))];rfl
   ·rw[nk _ _ HL.out HM.out (by rw[ei _ hp];exact hd)];rfl
 | some i=>
  have hi:=qQ _ _ _ hl
  rw[af] at hi
  have HL:=ae hl;clear hl
  have hz1:(s.extract (i+1) s.size).size≤64:=by rw[ByteArray.size_extract];omega
  have hz2:(s.extract 0 i).size≤64:=by rw[ByteArray.size_extract];omega
  cases hr:aI [46,43,126] ((bl s).drop (i+1))
  ·have HR:Hid (aI [46,43,126] (bl (s.extract (i+1) s.size))=false):=by show _=_;rw[aX];exact hr
   have HR':=ae hr;clear hr
   go_enter Tryz.func109,Tryz.ntmps109
   go_wp2_with fail
   refine(cm s _ _ HG.out (by omega)).mono ?_;rintro e w1 ⟨rfl,hb1⟩
   go_wp2_with fail
   refine(dz s 45 i _ (by omega) HL).mono ?_;rintro e w2 ⟨rfl,rfl⟩
   go_wp2_with fail
   go_region
   go_wp2_with fail
   refine(aK (s.extract (i+1) s.size) ⟨#[46,43,126]⟩ false _ (by omega) (by exact HR)).mono ?_;rintro e w2 ⟨rfl,hb2⟩
   go_wp2_with fail
   refine bodyPost_ret (aO rfl _ _ _) rfl ?_
   exact cU.no (by rw[HE.out,fO _ _ i HL.out (.inl HR'.out)]) (ah hb1.drew hb2)
  ·have HR:Hid (aI [46,43,126] (bl (s.extract (i+1) s.size))=true):=by show _=_;rw[aX];exact hr
   have HR':=ae hr;clear hr
   cases hm:aI [46,43,126,45] ((bl s).take i)
   ·have HM:Hid (aI [46,43,126,45] (bl (s.extract 0 i))=false):=by show _=_;rw[bV];exact hm
    have HM':=ae hm;clear hm
    go_enter Tryz.func109,Tryz.ntmps109
    go_wp2_with fail
    refine(cm s _ _ HG.out (by omega)).mono ?_;rintro e w1 ⟨rfl,hb1⟩
    go_wp2_with fail
    refine(dz s 45 i _ (by omega) HL).mono ?_;rintro e w2 ⟨rfl,rfl⟩
    go_wp2_with fail
    go_region
    go_wp2_with fail
    refine(aK (s.extract (i+1) s.size) ⟨#[46,43,126]⟩ true _ (by omega) (by exact HR)).mono ?_;rintro e w2 ⟨rfl,hb2⟩
    go_wp2_with fail
    refine(aK (s.extract 0 i) ⟨#[46,43,126,45]⟩ false _ (by omega) (by exact HM)).mono ?_;rintro e w3 ⟨rfl,hb3⟩
    go_wp2_with fail
    refine bodyPost_ret (aO rfl _ _ _) rfl ?_
    exact⟨⟨#[]⟩,s.extract 0 i,s.extract (i+1) s.size,false,rfl,by rw[HE.out,fO _ _ i HL.out (.inr (.inl HM'.out))];rfl,by decide,hz2,hz1,ah (ah hb1.drew hb2) hb3⟩
   ·have HM:Hid (aI [46,43,126,45] (bl (s.extract 0 i))=true):=by show _=_;rw[bV];exact hm
    have hp:=ki _ (s.extract 0 i) HM.out
    have hp':0<min i s.size:=by rw[ByteArray.size_extract] at hp;omega
    have HM':=ae hm;clear hm
    go_enter Tryz.func109,Tryz.ntmps109
    go_wp2_with fail
    refine(cm s _ _ HG.out (by omega)).mono ?_;rintro e w1 ⟨rfl,hb1⟩
    go_wp2_with fail
    refine(dz s 45 i _ (by omega) HL).mono ?_;rintro e w2 ⟨rfl,rfl⟩
    go_wp2_with fail
    go_region
    go_wp2_with fail
    refine(aK (s.extract (i+1) s.size) ⟨#[46,43,126]⟩ true _ (by omega) (by exact HR)).mono ?_;rintro e w2 ⟨rfl,hb2⟩
    go_wp2_with fail
    refine(aK (s.extract 0 i) ⟨#[46,43,126,45]⟩ true _ (by omega) (by exact HM)).mono ?_;rintro e w3 ⟨rfl,hb3⟩
    go_wp2_with fail
    refine(cO (s.extract 0 i)[0] _).mono ?_;rintro e w4 ⟨rfl,rfl⟩
    go_wp2_with fail
    refine bodyPost_ret (aO rfl _ _ _) rfl ?_
    refine⟨⟨#[]⟩,s.extract 0 i,s.extract (i+1) s.size,aD (s.extract 0 i)[0],rfl,?_,by decide,hz2,hz1,ah (ah hb1.drew hb2) hb3⟩
    rw[HE.out]
    cases hd:aD (s.extract 0 i)[0]
    ·rw[fO _ _ i HL.out (.inr (.inr (by rw[←bV,ei _ hp];exact hd)))];rfl
    ·rw[np _ _ i HL.out HR'.out HM'.out (by rw[←bV,ei _ hp];exact hd),if_pos rfl,bV,aX];rfl
theorem pU (s t u:BA)(w:World)(hG:Gl w)(hs:s.size≤64)(hk:zx s ⟨#[58]⟩=true)(ht:t=kz s ⟨#[58]⟩)(hu:u=io s ⟨#[58]⟩)
  (hn:gV (bl u)=true)(hl:u.size≤9):
  Calls Tryz.prog 109 #[.string s] w (cU (fg (bl s)) w):=by
 have HG:=ae hG;clear hG
 have HE:Hid (fg (bl s)=(gW (bl t)).map fun r=>(bl u,r.1,r.2)):=by
  show _=_;unfold fg;rw[Lh (bl s) hk (by rw[hu,fc] at hn;exact hn) (by rw[hu,←af,fc] at hl;exact hl),ht,hu,gy,fc];rfl
 have hts:t.size≤64:=by have:=vl s ⟨#[58]⟩;rw[ht];omega
 have HN:=ae hn;clear hn
 have ht':=ht.symm;have hu':=hu.symm;clear ht hu
 cases hl:bU 45 (bl t) with
 | none=>
  have HL:=ae hl;clear hl
  cases hm:aI [46,43,126,45] (bl t)
  ·have HM:=ae hm;clear hm
   go_enter Tryz.func109,Tryz.ntmps109
   go_wp2_with fail
   refine(cm s _ _ HG.out (by omega)).mono ?_;rintro e w1 ⟨rfl,hb1⟩
   go_wp2_with fail
   refine(bd _ _ _ (by omega) HN).mono ?_;rintro e w1' ⟨rfl,rfl⟩
   go_wp2_with fail
   refine(fB t 45 _ (by omega) HL).mono ?_;rintro e w2 ⟨rfl,rfl⟩
   go_wp2_with fail
   refine(aK _ _ false _ (by omega) (by exact HM)).mono ?_;rintro e w2 ⟨rfl,hb2⟩
   go_wp2_with fail
   refine bodyPost_ret (aO rfl _ _ _) rfl ?_
   exact⟨u,t,⟨#[]⟩,false,rfl,by rw[HE.out,jw _ _ HL.out (.inl HM.out)];rfl,by omega,by omega,by decide,ah hb1 hb2⟩
  ·have HM:=ae hm
   have hp:=ki _ _ hm;clear hm
   go_enter Tryz.func109,Tryz.ntmps109
   go_wp2_with fail
   refine(cm s _ _ HG.out (by omega)).mono ?_;rintro e w1 ⟨rfl,hb1⟩
   go_wp2_with fail
   refine(bd _ _ _ (by omega) HN).mono ?_;rintro e w1' ⟨rfl,rfl⟩
   go_wp2_with fail
   refine(fB t 45 _ (by omega) HL).mono ?_;rintro e w2 ⟨rfl,rfl⟩
   go_wp2_with fail
   refine(aK _ _ true _ (by omega) (by exact HM)).mono ?_;rintro e w2 ⟨rfl,hb2⟩
   go_wp2_with fail
   refine(cO t[0] _).mono ?_;rintro e w3 ⟨rfl,rfl⟩
   go_wp2_with fail
   refine bodyPost_ret (aO rfl _ _ _) rfl ?_
   refine⟨u,t,⟨#[]⟩,aD t[0],rfl,?_,by omega,by omega,by decide,ah hb1 hb2⟩
   rw[HE.out]
   cases hd:aD t[0]
   ·rw[jw _ _ HL.out (.inr (by rw[ei _ hp];exact hd))];rfl
   ·rw[nk _ _ HL.out HM.out (by rw[ei _ hp];exact hd)];rfl
 | some i=>
  have hi:=qQ _ _ _ hl
  rw[af] at hi
  have HL:=ae hl;clear hl
  have hz1:(t.extract (i+1) t.size).size≤64:=by rw[ByteArray.size_extract];omega
  have hz2:(t.extract 0 i).size≤64:=by rw[ByteArray.size_extract];omega
  cases hr:aI [46,43,126] ((bl t).drop (i+1))
  ·have HR:Hid (aI [46,43,126] (bl (t.extract (i+1) t.size))=false):=by show _=_;rw[aX];exact hr
   have HR':=ae hr;clear hr
   go_enter Tryz.func109,Tryz.ntmps109
   go_wp2_with fail
   refine(cm s _ _ HG.out (by omega)).mono ?_;rintro e w1 ⟨rfl,hb1⟩
   go_wp2_with fail
   refine(bd _ _ _ (by omega) HN).mono ?_;rintro e w1' ⟨rfl,rfl⟩
   go_wp2_with fail
   refine(dz t 45 i _ (by omega) HL).mono ?_;rintro e w2 ⟨rfl,rfl⟩
   go_wp2_with fail
   go_region
   go_wp2_with fail
   refine(aK (t.extract (i+1) t.size) ⟨#[46,43,126]⟩ false _ (by omega) (by exact HR)).mono ?_;rintro e w2 ⟨rfl,hb2⟩
   go_wp2_with fail
   refine bodyPost_ret (aO rfl _ _ _) rfl ?_
   exact cU.no (by rw[HE.out,fO _ _ i HL.out (.inl HR'.out)]) (ah hb1.drew hb2)
  ·have HR:Hid (aI [46,43,126] (bl (t.extract (i+1) t.size))=true):=by show _=_;rw[aX];exact hr
   have HR':=ae hr;clear hr
   cases hm:aI [46,43,126,45] ((bl t).take i)
   ·have HM:Hid (aI [46,43,126,45] (bl (t.extract 0 i))=false):=by show _=_;rw[bV];exact hm
    have HM':=ae hm;clear hm
    go_enter Tryz.func109,Tryz.ntmps109
    go_wp2_with fail
    refine(cm s _ _ HG.out (by omega)).mono ?_;rintro e w1 ⟨rfl,hb1⟩
    go_wp2_with fail
    refine(bd _ _ _ (by omega) HN).mono ?_;rintro e w1' ⟨rfl,rfl⟩
    go_wp2_with fail
    refine(dz t 45 i _ (by omega) HL).mono ?_;rintro e w2 ⟨rfl,rfl⟩
    go_wp2_with fail
    go_region
    go_wp2_with fail
    refine(aK (t.extract (i+1) t.size) ⟨#[46,43,126]⟩ true _ (by omega) (by exact HR)).mono ?_;rintro e w2 ⟨rfl,hb2⟩
    go_wp2_with fail
    refine(aK (t.extract 0 i) ⟨#[46,43,126,45]⟩ false _ (by omega) (by exact HM)).mono ?_;rintro e w3 ⟨rfl,hb3⟩
    go_wp2_with fail
    refine bodyPost_ret (aO rfl _ _ _) rfl ?_
    exact⟨u,t.extract 0 i,t.extract (i+1) t.size,false,rfl,by rw[HE.out,fO _ _ i HL.out (.inr (.inl HM'.out))];rfl,by omega,hz2,hz1,ah (ah hb1.drew hb2) hb3⟩
   ·have HM:Hid (aI [46,43,126,45] (bl (t.extract 0 i))=true):=by show _=_;rw[bV];exact hm
    have hp:=ki _ (t.extract 0 i) HM.out
    have hp':0<min i t.size:=by rw[ByteArray.size_extract] at hp;omega
    have HM':=ae hm;clear hm
    go_enter Tryz.func109,Tryz.ntmps109
    go_wp2_with fail
    refine(cm s _ _ HG.out (by omega)).mono ?_;rintro e w1 ⟨rfl,hb1⟩
    go_wp2_with fail
    refine(bd _ _ _ (by omega) HN).mono ?_;rintro e w1' ⟨rfl,rfl⟩
    go_wp2_with fail
    refine(dz t 45 i _ (by omega) HL).mono ?_;rintro e w2 ⟨rfl,rfl⟩
    go_wp2_with fail
    go_region
    go_wp2_with fail
    refine(aK (t.extract (i+1) t.size) ⟨#[46,43,126]⟩ true _ (by omega) (by exact HR)).mono ?_;rintro e w2 ⟨rfl,hb2⟩
    go_wp2_with fail
    refine(aK (t.extract 0 i) ⟨#[46,43,126,45]⟩ true _ (by omega) (by exact HM)).mono ?_;rintro e w3 ⟨rfl,hb3⟩
    go_wp2_with fail
    refine(cO (t.extract 0 i)[0] _).mono ?_;rintro e w4 ⟨rfl,rfl⟩
    go_wp2_with fail
    refine bodyPost_ret (aO rfl _ _ _) rfl ?_
    refine⟨u,t.extract 0 i,t.extract (i+1) t.size,aD (t.extract 0 i)[0],rfl,?_,by omega,hz2,hz1,ah (ah hb1.drew hb2) hb3⟩
    rw[HE.out]
    cases hd:aD (t.extract 0 i)[0]
    ·rw[fO _ _ i HL.out (.inr (.inr (by rw[←bV,ei _ hp];exact hd)))];rfl
    ·rw[np _ _ i HL.out HR'.out HM'.out (by rw[←bV,ei _ hp];exact hd),if_pos rfl,bV,aX]
theorem pV (s u:BA)(w:World)(hG:Gl w)(hs:s.size≤64)(hk:zx s ⟨#[58]⟩=true)(hu:u=io s ⟨#[58]⟩)
  (hn:¬ (gV (bl u)=true∧u.size≤9)):
  Calls Tryz.prog 109 #[.string s] w (cU (fg (bl s)) w):=by
 have HG:=ae hG;clear hG
 have HE:Hid (fg (bl s)=none):=by
  show _=_;unfold fg;rw[Cz (bl s) hk (by rw[hu,←af,fc] at hn;exact hn)]
 have hus:u.size≤64:=by have:=qR s ⟨#[58]⟩;rw[hu];omega
 have hu':=hu.symm;clear hu
 cases hb:gV (bl u)
 ·have HN:=ae hb;clear hb hn
  go_enter Tryz.func109,Tryz.ntmps109
  go_wp2_with fail
  refine(cm s _ _ HG.out (by omega)).mono ?_;rintro e w1 ⟨rfl,hb1⟩
  go_wp2_with fail
  refine(bd _ _ _ (by omega) HN).mono ?_;rintro e w1' ⟨rfl,rfl⟩
  go_wp2_with fail
  refine bodyPost_ret (aO rfl _ _ _) rfl ?_
  exact cU.no HE.out hb1
 ·have hl:9<u.size:=by rw[hb] at hn;simp at hn;omega
  have HN:=ae hb;clear hb hn
  go_enter Tryz.func109,Tryz.ntmps109
  go_wp2_with fail
  refine(cm s _ _ HG.out (by omega)).mono ?_;rintro e w1 ⟨rfl,hb1⟩
  go_wp2_with fail
  refine(bd _ _ _ (by omega) HN).mono ?_;rintro e w1' ⟨rfl,rfl⟩
  go_wp2_with fail
  refine bodyPost_ret (aO rfl _ _ _) rfl ?_
  exact cU.no HE.out hb1
theorem qX (s:BA)(w:World)(hG:Gl w)(hs:s.size≤64):
  Calls Tryz.prog 109 #[.string s] w (cU (fg (bl s)) w):=by
 cases hk:zx s ⟨#[58]⟩
 ·exact pT s w hG hs hk
 ·by_cases hn:gV (bl (io s ⟨#[58]⟩))=true∧(io s ⟨#[58]⟩).size≤9
  ·exact pU s _ _ w hG hs hk rfl rfl hn.1 hn.2
  ·exact pV s _ w hG hs hk rfl hn
def qY (r:Option (LU×LU×LU))(w:World)(e:Ending)(w':World):Prop:=
 ∃ (ep pr rv:BA) (c:Int),e=.returned (.tuple #[.string ep,.string pr,.string rv,.int .i64 c])∧(match r with | some (a,b,d)=>c=0∧bl ep=a∧bl pr=b∧bl rv=d | none=>c=3∧ep=⟨#[]⟩∧pr=⟨#[]⟩∧rv=⟨#[]⟩)∧Below w.heap.size w w'
theorem pW (s:BA)(w:World)(hG:Gl w)(hs:s.size≤64):
  Calls Tryz.prog 69 #[.int .i64 1,.string s] w (qY (fg (bl s)) w):=by
 have HG:=ae hG;clear hG
 go_enter Tryz.func69,Tryz.ntmps69
 go_wp2_with fail
 refine(qX s _ HG.out hs).mono ?_
 rintro e w1 ⟨ep,pr,rv,ok,rfl,hr,h1,h2,h3,hb1⟩
 have HR:=ae hr;clear hr
 cases ok
 ·go_wp2_with fail
  refine bodyPost_ret (aO rfl _ _ _) rfl ?_
  exact⟨⟨#[]⟩,⟨#[]⟩,⟨#[]⟩,3,rfl,by rw[HR.out];exact⟨rfl,rfl,rfl,rfl⟩,hb1⟩
 ·go_wp2_with fail
  refine bodyPost_ret (aO rfl _ _ _) rfl ?_
  exact⟨ep,pr,rv,0,rfl,by rw[HR.out];exact⟨rfl,rfl,rfl,rfl⟩,hb1⟩
def cQ:LU→Bool
 | a::_::_=>a==48
 | _=>false
theorem pt (s:BA)(h:¬ 1<s.size):cQ (bl s)=false:=by
 have hl:=af s
 cases hb:bl s with
 | nil=>rfl
 | cons a r=>cases r with
  | nil=>rfl
  | cons b r=>rw[hb] at hl;simp at hl;omega
theorem qZ (s:BA)(h:1<s.size):cQ (bl s)=(s[0]==48):=by
 have hl:=af s
 have h0:=dZ s (by omega)
 cases hb:(bl s).tail with
 | nil=>rw[h0,hb] at hl;simp at hl;omega
 | cons b r=>rw[h0,hb];rfl
theorem Ux (a:UInt8):(((a.toNat:Nat):Int)==48)=(a==48):=by
 rw[bI];simp[←UInt8.toNat_inj];omega
theorem kA (s:BA)(w:World)(hs:s.size≤9223372036854775807):
  Calls Tryz.prog 152 #[.string s] w fun e w'=>e=.returned (.bool (cQ (bl s)))∧w=w':=by
 by_cases h:1<s.size
 ·have h0:0<s.size:=by omega
  have HN:=ae (qZ s h)
  go_enter Tryz.func152,Tryz.ntmps152
  go_wp2
  go_ret
  exact⟨am (by rw[HN.out,Ux]),rfl⟩
 ·have HN:=ae (pt s h)
  go_enter Tryz.func152,Tryz.ntmps152
  go_wp2
  go_ret
  exact⟨am HN.out.symm,rfl⟩
theorem fT (s:BA)(b:Bool)(w:World)(hs:s.size≤9223372036854775807)(h:Hid (cQ (bl s)=b)):
  Calls Tryz.prog 152 #[.string s] w fun e w'=>e=.returned (.bool b)∧w=w':=by rw[←h.out];exact kA s w hs
def rO:LU:=[46,95,43,126,94]
def gN (l:LU):Option (LU×LU):=
 if (Lib.cut l [58]).2.2=true then (if gV (Lib.cut l [58]).1=true∧(Lib.cut l [58]).1.length≤9∧cQ (Lib.cut l [58]).1=false then some ((Lib.cut l [58]).1,(Lib.cut l [58]).2.1) else none) else some ([],l)
def iJ (p:LU):Option (LU×LU):=
 if (aI rO (Lib.cut p [45]).1&&aI rO (Lib.cut p [45]).2.1)=true then some ((Lib.cut p [45]).1,(Lib.cut p [45]).2.1) else none
def fh (l:LU):Option (LU×LU×LU):=
 match gN l with
 | none=>none
 | some (ep,p)=>(iJ p).map fun r=>(ep,r.1,r.2)
theorem lM (ep p:LU)(a b:Bool)(ha:aI rO (Lib.cut p [45]).1=a)(hb:aI rO (Lib.cut p [45]).2.1=b):
  (iJ p).map (fun r=>(ep,r.1,r.2))=if (a&&b)=true then some (ep,(Lib.cut p [45]).1,(Lib.cut p [45]).2.1) else none:=by
 unfold iJ;rw[ha,hb];split<;>rfl
theorem ra (s:BA)(w:World)(hG:Gl w)(hs:s.size≤64)(hk:zx s ⟨#[58]⟩=false):
  Calls Tryz.prog 110 #[.string s] w (cU (fh (bl s)) w):=by
 have HG:=ae hG;clear hG
 have HE:Hid (fh (bl s)=(iJ (bl s)).map fun r=>([],r.1,r.2)):=by
  show _=_;unfold fh gN;rw[show(Lib.cut (bl s) [58]).2.2=false from hk];rfl
 have z1:=qR s ⟨#[45]⟩
 have z2:=vl s ⟨#[45]⟩
 cases ha:aI rO (bl (io s ⟨#[45]⟩))
 ·have HA:=ae ha;clear ha
  go_enter Tryz.func110,Tryz.ntmps110
  go_wp2_with fail
  refine(cm s ⟨#[58]⟩ _ HG.out (by omega)).mono ?_;rintro e w1 ⟨rfl,hb1⟩
  go_wp2_with fail
  refine(cm s ⟨#[45]⟩ _ (by exact HG.out.below hb1) (by omega)).mono ?_;rintro e w2 ⟨rfl,hb2⟩
  go_wp2_with fail
  refine(aK (io s ⟨#[45]⟩) ⟨#[46,95,43,126,94]⟩ false _ (by omega) (by exact HA)).mono ?_;rintro e w3 ⟨rfl,hb3⟩
  go_wp2_with fail
  refine bodyPost_ret (aO rfl _ _ _) rfl ?_
  exact⟨⟨#[]⟩,io s ⟨#[45]⟩,kz s ⟨#[45]⟩,false,rfl,by rw[HE.out,lM _ _ false (aI rO (bl (kz s ⟨#[45]⟩))) (by rw[←HA.out,fc];rfl) (by rw[gy];rfl)];rfl,by decide,by omega,by omega,ah (ah hb1 hb2) hb3⟩
 ·have HA:=ae ha;clear ha
  cases hb:aI rO (bl (kz s ⟨#[45]⟩))
  ·have HV:=ae hb;clear hb
   go_enter Tryz.func110,Tryz.ntmps110
   go_wp2_with fail
   refine(cm s ⟨#[58]⟩ _ HG.out (by omega)).mono ?_;rintro e w1 ⟨rfl,hb1⟩
   go_wp2_with fail
   refine(cm s ⟨#[45]⟩ _ (by exact HG.out.below hb1) (by omega)).mono ?_;rintro e w2 ⟨rfl,hb2⟩
   go_wp2_with fail
   refine(aK (io s ⟨#[45]⟩) ⟨#[46,95,43,126,94]⟩ true _ (by omega) (by exact HA)).mono ?_;rintro e w3 ⟨rfl,hb3⟩
   go_wp2_with fail
   refine(aK (kz s ⟨#[45]⟩) ⟨#[46,95,43,126,94]⟩ false _ (by omega) (by exact HV)).mono ?_;rintro e w4 ⟨rfl,hb4⟩
   go_wp2_with fail
   refine bodyPost_ret (aO rfl _ _ _) rfl ?_
   exact⟨⟨#[]⟩,io s ⟨#[45]⟩,kz s ⟨#[45]⟩,false,rfl,by rw[HE.out,lM _ _ true false (by rw[←HA.out,fc];rfl) (by rw[←HV.out,gy];rfl)];rfl,by decide,by omega,by omega,ah (ah (ah hb1 hb2) hb3) hb4⟩
  ·have HV:=ae hb;clear hb
   go_enter Tryz.func110,Tryz.ntmps110
   go_wp2_with fail
   refine(cm s ⟨#[58]⟩ _ HG.out (by omega)).mono ?_;rintro e w1 ⟨rfl,hb1⟩
   go_wp2_with fail
   refine(cm s ⟨#[45]⟩ _ (by exact HG.out.below hb1) (by omega)).mono ?_;rintro e w2 ⟨rfl,hb2⟩
   go_wp2_with fail
   refine(aK (io s ⟨#[45]⟩) ⟨#[46,95,43,126,94]⟩ true _ (by omega) (by exact HA)).mono ?_;rintro e w3 ⟨rfl,hb3⟩
   go_wp2_with fail
   refine(aK (kz s ⟨#[45]⟩) ⟨#[46,95,43,126,94]⟩ true _ (by omega) (by exact HV)).mono ?_;rintro e w4 ⟨rfl,hb4⟩
   go_wp2_with fail
   refine bodyPost_ret (aO rfl _ _ _) rfl ?_
   exact⟨⟨#[]⟩,io s ⟨#[45]⟩,kz s ⟨#[45]⟩,true,rfl,by rw[HE.out,lM _ _ true true (by rw[←HA.out,fc];rfl) (by rw[←HV.out,gy];rfl)];simp only[Bool.and_self,if_true,fc,gy];rfl,by decide,by omega,by omega,ah (ah (ah hb1 hb2) hb3) hb4⟩
theorem rc (s t u:BA)(w:World)(hG:Gl w)(hs:s.size≤64)(hk:zx s ⟨#[58]⟩=true)(ht:t=kz s ⟨#[58]⟩)(hu:u=io s ⟨#[58]⟩)
  (hn:gV (bl u)=true)(hl:u.size≤9)(ho:cQ (bl u)=false):
  Calls Tryz.prog 110 #[.string s] w (cU (fh (bl s)) w):=by
 have HG:=ae hG;clear hG
 have HE:Hid (fh (bl s)=(iJ (bl t)).map fun r=>(bl u,r.1,r.2)):=by
  show _=_;unfold fh gN
  have e1:bl u=(Lib.cut (bl s) [58]).1:=by rw[hu,fc];rfl
  have e2:bl t=(Lib.cut (bl s) [58]).2.1:=by rw[ht,gy];rfl
  rw[show(Lib.cut (bl s) [58]).2.2=true from hk,if_pos rfl,←e1,←e2,if_pos ⟨hn,by rw[af];exact hl,ho⟩]
 have hts:t.size≤64:=by have:=vl s ⟨#[58]⟩;rw[ht];omega
 have HN:=ae hn;have HO:=ae ho;clear hn ho
 have ht':=ht.symm;have hu':=hu.symm;clear ht hu
 have z1:=qR t ⟨#[45]⟩
 have z2:=vl t ⟨#[45]⟩
 cases ha:aI rO (bl (io t ⟨#[45]⟩))
 ·have HA:=ae ha;clear ha
  go_enter Tryz.func110,Tryz.ntmps110
  go_wp2_with fail
  refine(cm s ⟨#[58]⟩ _ HG.out (by omega)).mono ?_;rintro e w1 ⟨rfl,hb1⟩
  go_wp2_with fail
  refine(bd _ _ _ (by omega) HN).mono ?_;rintro e w1' ⟨rfl,rfl⟩
  go_wp2_with fail
  refine(fT _ _ _ (by omega) HO).mono ?_;rintro e w1' ⟨rfl,rfl⟩
  go_wp2_with fail
  refine(cm t ⟨#[45]⟩ _ (by exact HG.out.below hb1) (by omega)).mono ?_;rintro e w2 ⟨rfl,hb2⟩
  go_wp2_with fail
  refine(aK (io t ⟨#[45]⟩) ⟨#[46,95,43,126,94]⟩ false _ (by omega) (by exact HA)).mono ?_;rintro e w3 ⟨rfl,hb3⟩
  go_wp2_with fail
  refine bodyPost_ret (aO rfl _ _ _) rfl ?_
  exact⟨u,io t ⟨#[45]⟩,kz t ⟨#[45]⟩,false,rfl,by rw[HE.out,lM _ _ false (aI rO (bl (kz t ⟨#[45]⟩))) (by rw[←HA.out,fc];rfl) (by rw[gy];rfl)];rfl,by omega,by omega,by omega,ah (ah hb1 hb2) hb3⟩
 ·have HA:=ae ha;clear ha
  cases hb:aI rO (bl (kz t ⟨#[45]⟩))
  ·have HV:=ae hb;clear hb
   go_enter Tryz.func110,Tryz.ntmps110
   go_wp2_with fail
   refine(cm s ⟨#[58]⟩ _ HG.out (by omega)).mono ?_;rintro e w1 ⟨rfl,hb1⟩
   go_wp2_with fail
   refine(bd _ _ _ (by omega) HN).mono ?_;rintro e w1' ⟨rfl,rfl⟩
   go_wp2_with fail
   refine(fT _ _ _ (by omega) HO).mono ?_;rintro e w1' ⟨rfl,rfl⟩
   go_wp2_with fail
   refine(cm t ⟨#[45]⟩ _ (by exact HG.out.below hb1) (by omega)).mono ?_;rintro e w2 ⟨rfl,hb2⟩
   go_wp2_with fail
   refine(aK (io t ⟨#[45]⟩) ⟨#[46,95,43,126,94]⟩ true _ (by omega) (by exact HA)).mono ?_;rintro e w3 ⟨rfl,hb3⟩
   go_wp2_with fail
   refine(aK (kz t ⟨#[45]⟩) ⟨#[46,95,43,126,94]⟩ false _ (by omega) (by exact HV)).mono ?_;rintro e w4 ⟨rfl,hb4⟩
   go_wp2_with fail
   refine bodyPost_ret (aO rfl _ _ _) rfl ?_
   exact⟨u,io t ⟨#[45]⟩,kz t ⟨#[45]⟩,false,rfl,by rw[HE.out,lM _ _ true false (by rw[←HA.out,fc];rfl) (by rw[←HV.out,gy];rfl)];rfl,by omega,by omega,by omega,ah (ah (ah hb1 hb2) hb3) hb4⟩
  ·have HV:=ae hb;clear hb
   go_enter Tryz.func110,Tryz.ntmps110
   go_wp2_with fail
   refine(cm s ⟨#[58]⟩ _ HG.out (by omega)).mono ?_;rintro e w1 ⟨rfl,hb1⟩
   go_wp2_with fail
   refine(bd _ _ _ (by omega) HN).mono ?_;rintro e w1' ⟨rfl,rfl⟩
   go_wp2_with fail
   refine(fT _ _ _ (by omega) HO).mono ?_;rintro e w1' ⟨rfl,rfl⟩
   go_wp2_with fail
   refine(cm t ⟨#[45]⟩ _ (by exact HG.out.below hb1) (by omega)).mono ?_;rintro e w2 ⟨rfl,hb2⟩
   go_wp2_with fail
   refine(aK (io t ⟨#[45]⟩) ⟨#[46,95,43,126,94]⟩ true _ (by omega) (by exact HA)).mono ?_;rintro e w3 ⟨rfl,hb3⟩
   go_wp2_with fail
   refine(aK (kz t ⟨#[45]⟩) ⟨#[46,95,43,126,94]⟩ true _ (by omega) (by exact HV)).mono ?_;rintro e w4 ⟨rfl,hb4⟩
   go_wp2_with fail
   refine bodyPost_ret (aO rfl _ _ _) rfl ?_
   exact⟨u,io t ⟨#[45]⟩,kz t ⟨#[45]⟩,true,rfl,by rw[HE.out,lM _ _ true true (by rw[←HA.out,fc];rfl) (by rw[←HV.out,gy];rfl)];simp only[Bool.and_self,if_true,fc,gy];rfl,by omega,by omega,by omega,ah (ah (ah hb1 hb2) hb3) hb4⟩
theorem re (s u:BA)(w:World)(hG:Gl w)(hs:s.size≤64)(hk:zx s ⟨#[58]⟩=true)(hu:u=io s ⟨#[58]⟩)
  (hn:¬ (gV (bl u)=true∧u.size≤9∧cQ (bl u)=false)):
  Calls Tryz.prog 110 #[.string s] w (cU (fh (bl s)) w):=by
 have HG:=ae hG;clear hG
 have HE:Hid (fh (bl s)=none):=by
  show _=_;unfold fh gN
  have e1:bl u=(Lib.cut (bl s) [58]).1:=by rw[hu,fc];rfl
  rw[show(Lib.cut (bl s) [58]).2.2=true from hk,if_pos rfl,←e1,if_neg (by rw[af];exact hn)]
 have hus:u.size≤64:=by have:=qR s ⟨#[58]⟩;rw[hu];omega
 have hu':=hu.symm;clear hu
 cases hb:gV (bl u)
 ·have HN:=ae hb;clear hb hn
  go_enter Tryz.func110,Tryz.ntmps110
  go_wp2_with fail
  refine(cm s ⟨#[58]⟩ _ HG.out (by omega)).mono ?_;rintro e w1 ⟨rfl,hb1⟩
  go_wp2_with fail
  refine(bd _ _ _ (by omega) HN).mono ?_;rintro e w1' ⟨rfl,rfl⟩
  go_wp2_with fail
  refine bodyPost_ret (aO rfl _ _ _) rfl ?_
  exact cU.no HE.out hb1
 ·by_cases hl:u.size≤9
  ·have ho:cQ (bl u)=true:=by cases h:cQ (bl u) with | true=>rfl | false=>exact absurd ⟨hb,hl,h⟩ hn
   have HN:=ae hb;have HO:=ae ho;clear hb hn ho
   go_enter Tryz.func110,Tryz.ntmps110
   go_wp2_with fail
   refine(cm s ⟨#[58]⟩ _ HG.out (by omega)).mono ?_;rintro e w1 ⟨rfl,hb1⟩
   go_wp2_with fail
   refine(bd _ _ _ (by omega) HN).mono ?_;rintro e w1' ⟨rfl,rfl⟩
   go_wp2_with fail
   refine(fT _ _ _ (by omega) HO).mono ?_;rintro e w1' ⟨rfl,rfl⟩
   go_wp2_with fail
   refine bodyPost_ret (aO rfl _ _ _) rfl ?_
   exact cU.no HE.out hb1
  ·have HN:=ae hb;clear hb hn
   go_enter Tryz.func110,Tryz.ntmps110
   go_wp2_with fail
   refine(cm s ⟨#[58]⟩ _ HG.out (by omega)).mono ?_;rintro e w1 ⟨rfl,hb1⟩
   go_wp2_with fail
   refine(bd _ _ _ (by omega) HN).mono ?_;rintro e w1' ⟨rfl,rfl⟩
   go_wp2_with fail
   refine bodyPost_ret (aO rfl _ _ _) rfl ?_
   exact cU.no HE.out hb1
theorem sO (s:BA)(w:World)(hG:Gl w)(hs:s.size≤64):
  Calls Tryz.prog 110 #[.string s] w (cU (fh (bl s)) w):=by
 cases hk:zx s ⟨#[58]⟩
 ·exact ra s w hG hs hk
 ·by_cases hn:gV (bl (io s ⟨#[58]⟩))=true∧(io s ⟨#[58]⟩).size≤9∧cQ (bl (io s ⟨#[58]⟩))=false
  ·exact rc s _ _ w hG hs hk rfl rfl hn.1 hn.2.1 hn.2.2
  ·exact re s _ w hG hs hk rfl hn
theorem rf (s:BA)(w:World)(hG:Gl w)(hs:s.size≤64):
  Calls Tryz.prog 69 #[.int .i64 2,.string s] w (qY (fh (bl s)) w):=by
 have HG:=ae hG;clear hG
 go_enter Tryz.func69,Tryz.ntmps69
 go_wp2_with fail
 refine(sO s _ HG.out hs).mono ?_
 rintro e w1 ⟨ep,pr,rv,ok,rfl,hr,h1,h2,h3,hb1⟩
 have HR:=ae hr;clear hr
 cases ok
 ·go_wp2_with fail
  refine bodyPost_ret (aO rfl _ _ _) rfl ?_
  exact⟨⟨#[]⟩,⟨#[]⟩,⟨#[]⟩,3,rfl,by rw[HR.out];exact⟨rfl,rfl,rfl,rfl⟩,hb1⟩
 ·go_wp2_with fail
  refine bodyPost_ret (aO rfl _ _ _) rfl ?_
  exact⟨ep,pr,rv,0,rfl,by rw[HR.out];exact⟨rfl,rfl,rfl,rfl⟩,hb1⟩
end
end Go.Proofs.YtkjdbpjglobbjaaGreatDoor
