/- A part of the proof. -/
import Derived.Test.YtlglfpbhapmhiaaGreatDoorK09
set_option maxRecDepth 100000
set_option maxHeartbeats 20000000
set_option linter.unusedVariables false
set_option linter.unusedSimpArgs false
namespace Go.Proofs.YtlglfpbhapmhiaaGreatDoor
section
open Go.RowKit
theorem aF {fn:Func}{t u v x:Tmp}(h:fn.results=#[.tmp t,.tmp u,.tmp v,.tmp x])(tmps:Array Value)(P:Program)(w:World):
  (results fn tmps).run P w=.ok (.tuple #[tmps.getD t undef,tmps.getD u undef,tmps.getD v undef,tmps.getD x undef]) w:=by simp[results,h]
def bT (r:Option (LU×LU×LU))(w:World)(e:Ending)(w':World):Prop:=
 ∃ (ep pr rv:BA) (ok:Bool),e=.returned (.tuple #[.string ep,.string pr,.string rv,.bool ok])∧r=(if ok=true then some (bl ep,bl pr,bl rv) else none)∧ep.size≤64∧pr.size≤64∧rv.size≤64∧Below w.heap.size w w'
theorem bT.no {r:Option (LU×LU×LU)}{w w':World}(h:r=none)(hb:Below w.heap.size w w'):bT r w (.returned (.tuple #[.string ⟨#[]⟩,.string ⟨#[]⟩,.string ⟨#[]⟩,.bool false])) w':=
 ⟨_,_,_,_,rfl,h,by decide,by decide,by decide,hb⟩
theorem xN (l:LU)(h:(Lib.cut l [58]).2.2=false):ke l=some ([],l):=by simp[ke,h]
theorem Dk (l:LU)(h:(Lib.cut l [58]).2.2=true)(h1:jY (Lib.cut l [58]).1=true)(h2:(Lib.cut l [58]).1.length≤9):ke l=some ((Lib.cut l [58]).1,(Lib.cut l [58]).2.1):=by simp[ke,h,h1,h2]
theorem vO (l:LU)(h:(Lib.cut l [58]).2.2=true)(h1:¬ (jY (Lib.cut l [58]).1=true∧(Lib.cut l [58]).1.length≤9)):ke l=none:=by simp[ke,h,h1]
theorem gH (ep p:LU)(h:dB 45 p=none)(h1:bB [46,43,126,45] p=false∨jZ p=false):(kH p).map (fun r=>(ep,r.1,r.2))=none:=by
 unfold kH;rw[h];rcases h1 with h1 | h1<;>simp[h1]
theorem kM (ep p:LU)(h:dB 45 p=none)(h1:bB [46,43,126,45] p=true)(h2:jZ p=true):(kH p).map (fun r=>(ep,r.1,r.2))=some (ep,p,[]):=by
 unfold kH;rw[h];simp[h1,h2]
theorem dU (ep p:LU)(i:Nat)(h:dB 45 p=some i)(h1:bB [46,43,126] (p.drop (i+1))=false∨bB [46,43,126,45] (p.take i)=false∨jZ (p.take i)=false):(kH p).map (fun r=>(ep,r.1,r.2))=none:=by
 unfold kH;rw[h];rcases h1 with h1 | h1 | h1<;>simp[h1]
theorem kN (ep p:LU)(i:Nat)(h:dB 45 p=some i)(h0:bB [46,43,126] (p.drop (i+1))=true)(h1:bB [46,43,126,45] (p.take i)=true)(h2:jZ (p.take i)=true):(kH p).map (fun r=>(ep,r.1,r.2))=some (ep,p.take i,p.drop (i+1)):=by
 unfold kH;rw[h];simp[h0,h1,h2]
theorem aB (s o:BA)(b:Bool)(w:World)(hs:s.size≤9223372036854775807)(h:Hid (bB (bl o) (bl s)=b)):
  Calls Tryz.prog 162 #[.string s,.string o] w fun e w'=>e=.returned (.bool b)∧Below w.heap.size w w':=by
 rw[←h.out];exact vJ s o w hs
theorem aO (s:BA)(b:Bool)(w:World)(hs:s.size≤9223372036854775807)(h:Hid (jY (bl s)=b)):
  Calls Tryz.prog 161 #[.string s] w fun e w'=>e=.returned (.bool b)∧w=w':=by
 rw[←h.out];exact qL s w hs
theorem mD (s:BA)(w:World)(hG:Gl w)(hs:s.size≤64)(hk:vD s ⟨#[58]⟩=false):
  Calls Tryz.prog 120 #[.string s] w (bT (gW (bl s)) w):=by
 have HG:=ae hG;clear hG
 have HE:Hid (gW (bl s)=(kH (bl s)).map fun r=>([],r.1,r.2)):=by
  show _=_;unfold gW;rw[xN (bl s) hk]
 cases hl:dB 45 (bl s) with
 | none=>
  have HL:=ae hl;clear hl
  cases hm:bB [46,43,126,45] (bl s)
  ·have HM:=ae hm;clear hm
   go_enter Tryz.func120,Tryz.ntmps120
   go_wp2_with fail
   refine(bH s _ _ HG.out (by omega)).mono ?_;rintro e w1 ⟨rfl,hb1⟩
   go_wp2_with fail
   refine(cO s 45 _ (by omega) HL).mono ?_;rintro e w2 ⟨rfl,rfl⟩
   go_wp2_with fail
   refine(aB _ _ false _ (by omega) (by exact HM)).mono ?_;rintro e w2 ⟨rfl,hb2⟩
   go_wp2_with fail
   refine bodyPost_ret (aF rfl _ _ _) rfl ?_
   exact⟨⟨#[]⟩,s,⟨#[]⟩,false,rfl,by rw[HE.out,gH _ _ HL.out (.inl HM.out)];rfl,by decide,by omega,by decide,ap hb1 hb2⟩
  ·have HM:=ae hm
   have hp:=lC _ _ hm;clear hm
   go_enter Tryz.func120,Tryz.ntmps120
   go_wp2_with fail
   refine(bH s _ _ HG.out (by omega)).mono ?_;rintro e w1 ⟨rfl,hb1⟩
   go_wp2_with fail
   refine(cO s 45 _ (by omega) HL).mono ?_;rintro e w2 ⟨rfl,rfl⟩
   go_wp2_with fail
   refine(aB _ _ true _ (by omega) (by exact HM)).mono ?_;rintro e w2 ⟨rfl,hb2⟩
   go_wp2_with fail
   refine(cN s[0] _).mono ?_;rintro e w3 ⟨rfl,rfl⟩
   go_wp2_with fail
   refine bodyPost_ret (aF rfl _ _ _) rfl ?_
   refine⟨⟨#[]⟩,s,⟨#[]⟩,cv s[0],rfl,?_,by decide,by omega,by decide,ap hb1 hb2⟩
   rw[HE.out]
   cases hd:cv s[0]
   ·rw[gH _ _ HL.out (.inr (by rw[dC _ hp];exact hd))];rfl
   ·rw[kM _ _ HL.out HM.out (by rw[dC _ hp];exact hd)];rfl
 | some i=>
  have hi:=nf _ _ _ hl
  rw[ah] at hi
  have HL:=ae hl;clear hl
  have hz1:(s.extract (i+1) s.size).size≤64:=by rw[ByteArray.size_extract];omega
  have hz2:(s.extract 0 i).size≤64:=by rw[ByteArray.size_extract];omega
  cases hr:bB [46,43,126] ((bl s).drop (i+1))
  ·have HR:Hid (bB [46,43,126] (bl (s.extract (i+1) s.size))=false):=by show _=_;rw[cC];exact hr
   have HR':=ae hr;clear hr
   go_enter Tryz.func120,Tryz.ntmps120
   go_wp2_with fail
   refine(bH s _ _ HG.out (by omega)).mono ?_;rintro e w1 ⟨rfl,hb1⟩
   go_wp2_with fail
   refine(bJ s 45 i _ (by omega) HL).mono ?_;rintro e w2 ⟨rfl,rfl⟩
   go_wp2_with fail
   go_region
   go_wp2_with fail
   refine(aB (s.extract (i+1) s.size) ⟨#[46,43,126]⟩ false _ (by omega) (by exact HR)).mono ?_;rintro e w2 ⟨rfl,hb2⟩
   go_wp2_with fail
   refine bodyPost_ret (aF rfl _ _ _) rfl ?_
   exact bT.no (by rw[HE.out,dU _ _ i HL.out (.inl HR'.out)]) (ap hb1.drew hb2)
  ·have HR:Hid (bB [46,43,126] (bl (s.extract (i+1) s.size))=true):=by show _=_;rw[cC];exact hr
   have HR':=ae hr;clear hr
   cases hm:bB [46,43,126,45] ((bl s).take i)
   ·have HM:Hid (bB [46,43,126,45] (bl (s.extract 0 i))=false):=by show _=_;rw[du];exact hm
    have HM':=ae hm;clear hm
    go_enter Tryz.func120,Tryz.ntmps120
    go_wp2_with fail
    refine(bH s _ _ HG.out (by omega)).mono ?_;rintro e w1 ⟨rfl,hb1⟩
    go_wp2_with fail
    refine(bJ s 45 i _ (by omega) HL).mono ?_;rintro e w2 ⟨rfl,rfl⟩
    go_wp2_with fail
    go_region
    go_wp2_with fail
    refine(aB (s.extract (i+1) s.size) ⟨#[46,43,126]⟩ true _ (by omega) (by exact HR)).mono ?_;rintro e w2 ⟨rfl,hb2⟩
    go_wp2_with fail
    refine(aB (s.extract 0 i) ⟨#[46,43,126,45]⟩ false _ (by omega) (by exact HM)).mono ?_;rintro e w3 ⟨rfl,hb3⟩
    go_wp2_with fail
    refine bodyPost_ret (aF rfl _ _ _) rfl ?_
    exact⟨⟨#[]⟩,s.extract 0 i,s.extract (i+1) s.size,false,rfl,by rw[HE.out,dU _ _ i HL.out (.inr (.inl HM'.out))];rfl,by decide,hz2,hz1,ap (ap hb1.drew hb2) hb3⟩
   ·have HM:Hid (bB [46,43,126,45] (bl (s.extract 0 i))=true):=by show _=_;rw[du];exact hm
    have hp:=lC _ (s.extract 0 i) HM.out
    have hp':0<min i s.size:=by rw[ByteArray.size_extract] at hp;omega
    have HM':=ae hm;clear hm
    go_enter Tryz.func120,Tryz.ntmps120
    go_wp2_with fail
    refine(bH s _ _ HG.out (by omega)).mono ?_;rintro e w1 ⟨rfl,hb1⟩
    go_wp2_with fail
    refine(bJ s 45 i _ (by omega) HL).mono ?_;rintro e w2 ⟨rfl,rfl⟩
    go_wp2_with fail
    go_region
    go_wp2_with fail
    refine(aB (s.extract (i+1) s.size) ⟨#[46,43,126]⟩ true _ (by omega) (by exact HR)).mono ?_;rintro e w2 ⟨rfl,hb2⟩
    go_wp2_with fail
    refine(aB (s.extract 0 i) ⟨#[46,43,126,45]⟩ true _ (by omega) (by exact HM)).mono ?_;rintro e w3 ⟨rfl,hb3⟩
    go_wp2_with fail
    refine(cN (s.extract 0 i)[0] _).mono ?_;rintro e w4 ⟨rfl,rfl⟩
    go_wp2_with fail
    refine bodyPost_ret (aF rfl _ _ _) rfl ?_
    refine⟨⟨#[]⟩,s.extract 0 i,s.extract (i+1) s.size,cv (s.extract 0 i)[0],rfl,?_,by decide,hz2,hz1,ap (ap hb1.drew hb2) hb3⟩
    rw[HE.out]
    cases hd:cv (s.extract 0 i)[0]
    ·rw[dU _ _ i HL.out (.inr (.inr (by rw[←du,dC _ hp];exact hd)))];rfl
    ·rw[kN _ _ i HL.out HR'.out HM'.out (by rw[←du,dC _ hp];exact hd),if_pos rfl,du,cC];rfl
theorem mE (s t u:BA)(w:World)(hG:Gl w)(hs:s.size≤64)(hk:vD s ⟨#[58]⟩=true)(ht:t=kg s ⟨#[58]⟩)(hu:u=gf s ⟨#[58]⟩)
  (hn:jY (bl u)=true)(hl:u.size≤9):
  Calls Tryz.prog 120 #[.string s] w (bT (gW (bl s)) w):=by
 have HG:=ae hG;clear hG
 have HE:Hid (gW (bl s)=(kH (bl t)).map fun r=>(bl u,r.1,r.2)):=by
  show _=_;unfold gW;rw[Dk (bl s) hk (by rw[hu,dE] at hn;exact hn) (by rw[hu,←ah,dE] at hl;exact hl),ht,hu,fJ,dE];rfl
 have hts:t.size≤64:=by have:=qo s ⟨#[58]⟩;rw[ht];omega
 have HN:=ae hn;clear hn
 have ht':=ht.symm;have hu':=hu.symm;clear ht hu
 cases hl:dB 45 (bl t) with
 | none=>
  have HL:=ae hl;clear hl
  cases hm:bB [46,43,126,45] (bl t)
  ·have HM:=ae hm;clear hm
   go_enter Tryz.func120,Tryz.ntmps120
   go_wp2_with fail
   refine(bH s _ _ HG.out (by omega)).mono ?_;rintro e w1 ⟨rfl,hb1⟩
   go_wp2_with fail
   refine(aO _ _ _ (by omega) HN).mono ?_;rintro e w1' ⟨rfl,rfl⟩
   go_wp2_with fail
   refine(cO t 45 _ (by omega) HL).mono ?_;rintro e w2 ⟨rfl,rfl⟩
   go_wp2_with fail
   refine(aB _ _ false _ (by omega) (by exact HM)).mono ?_;rintro e w2 ⟨rfl,hb2⟩
   go_wp2_with fail
   refine bodyPost_ret (aF rfl _ _ _) rfl ?_
   exact⟨u,t,⟨#[]⟩,false,rfl,by rw[HE.out,gH _ _ HL.out (.inl HM.out)];rfl,by omega,by omega,by decide,ap hb1 hb2⟩
  ·have HM:=ae hm
   have hp:=lC _ _ hm;clear hm
   go_enter Tryz.func120,Tryz.ntmps120
   go_wp2_with fail
   refine(bH s _ _ HG.out (by omega)).mono ?_;rintro e w1 ⟨rfl,hb1⟩
   go_wp2_with fail
   refine(aO _ _ _ (by omega) HN).mono ?_;rintro e w1' ⟨rfl,rfl⟩
   go_wp2_with fail
   refine(cO t 45 _ (by omega) HL).mono ?_;rintro e w2 ⟨rfl,rfl⟩
   go_wp2_with fail
   refine(aB _ _ true _ (by omega) (by exact HM)).mono ?_;rintro e w2 ⟨rfl,hb2⟩
   go_wp2_with fail
   refine(cN t[0] _).mono ?_;rintro e w3 ⟨rfl,rfl⟩
   go_wp2_with fail
   refine bodyPost_ret (aF rfl _ _ _) rfl ?_
   refine⟨u,t,⟨#[]⟩,cv t[0],rfl,?_,by omega,by omega,by decide,ap hb1 hb2⟩
   rw[HE.out]
   cases hd:cv t[0]
   ·rw[gH _ _ HL.out (.inr (by rw[dC _ hp];exact hd))];rfl
   ·rw[kM _ _ HL.out HM.out (by rw[dC _ hp];exact hd)];rfl
 | some i=>
  have hi:=nf _ _ _ hl
  rw[ah] at hi
  have HL:=ae hl;clear hl
  have hz1:(t.extract (i+1) t.size).size≤64:=by rw[ByteArray.size_extract];omega
  have hz2:(t.extract 0 i).size≤64:=by rw[ByteArray.size_extract];omega
  cases hr:bB [46,43,126] ((bl t).drop (i+1))
  ·have HR:Hid (bB [46,43,126] (bl (t.extract (i+1) t.size))=false):=by show _=_;rw[cC];exact hr
   have HR':=ae hr;clear hr
   go_enter Tryz.func120,Tryz.ntmps120
   go_wp2_with fail
   refine(bH s _ _ HG.out (by omega)).mono ?_;rintro e w1 ⟨rfl,hb1⟩
   go_wp2_with fail
   refine(aO _ _ _ (by omega) HN).mono ?_;rintro e w1' ⟨rfl,rfl⟩
   go_wp2_with fail
   refine(bJ t 45 i _ (by omega) HL).mono ?_;rintro e w2 ⟨rfl,rfl⟩
   go_wp2_with fail
   go_region
   go_wp2_with fail
   refine(aB (t.extract (i+1) t.size) ⟨#[46,43,126]⟩ false _ (by omega) (by exact HR)).mono ?_;rintro e w2 ⟨rfl,hb2⟩
   go_wp2_with fail
   refine bodyPost_ret (aF rfl _ _ _) rfl ?_
   exact bT.no (by rw[HE.out,dU _ _ i HL.out (.inl HR'.out)]) (ap hb1.drew hb2)
  ·have HR:Hid (bB [46,43,126] (bl (t.extract (i+1) t.size))=true):=by show _=_;rw[cC];exact hr
   have HR':=ae hr;clear hr
   cases hm:bB [46,43,126,45] ((bl t).take i)
   ·have HM:Hid (bB [46,43,126,45] (bl (t.extract 0 i))=false):=by show _=_;rw[du];exact hm
    have HM':=ae hm;clear hm
    go_enter Tryz.func120,Tryz.ntmps120
    go_wp2_with fail
    refine(bH s _ _ HG.out (by omega)).mono ?_;rintro e w1 ⟨rfl,hb1⟩
    go_wp2_with fail
    refine(aO _ _ _ (by omega) HN).mono ?_;rintro e w1' ⟨rfl,rfl⟩
    go_wp2_with fail
    refine(bJ t 45 i _ (by omega) HL).mono ?_;rintro e w2 ⟨rfl,rfl⟩
    go_wp2_with fail
    go_region
    go_wp2_with fail
    refine(aB (t.extract (i+1) t.size) ⟨#[46,43,126]⟩ true _ (by omega) (by exact HR)).mono ?_;rintro e w2 ⟨rfl,hb2⟩
    go_wp2_with fail
    refine(aB (t.extract 0 i) ⟨#[46,43,126,45]⟩ false _ (by omega) (by exact HM)).mono ?_;rintro e w3 ⟨rfl,hb3⟩
    go_wp2_with fail
    refine bodyPost_ret (aF rfl _ _ _) rfl ?_
    exact⟨u,t.extract 0 i,t.extract (i+1) t.size,false,rfl,by rw[HE.out,dU _ _ i HL.out (.inr (.inl HM'.out))];rfl,by omega,hz2,hz1,ap (ap hb1.drew hb2) hb3⟩
   ·have HM:Hid (bB [46,43,126,45] (bl (t.extract 0 i))=true):=by show _=_;rw[du];exact hm
    have hp:=lC _ (t.extract 0 i) HM.out
    have hp':0<min i t.size:=by rw[ByteArray.size_extract] at hp;omega
    have HM':=ae hm;clear hm
    go_enter Tryz.func120,Tryz.ntmps120
    go_wp2_with fail
    refine(bH s _ _ HG.out (by omega)).mono ?_;rintro e w1 ⟨rfl,hb1⟩
    go_wp2_with fail
    refine(aO _ _ _ (by omega) HN).mono ?_;rintro e w1' ⟨rfl,rfl⟩
    go_wp2_with fail
    refine(bJ t 45 i _ (by omega) HL).mono ?_;rintro e w2 ⟨rfl,rfl⟩
    go_wp2_with fail
    go_region
    go_wp2_with fail
    refine(aB (t.extract (i+1) t.size) ⟨#[46,43,126]⟩ true _ (by omega) (by exact HR)).mono ?_;rintro e w2 ⟨rfl,hb2⟩
    go_wp2_with fail
    refine(aB (t.extract 0 i) ⟨#[46,43,126,45]⟩ true _ (by omega) (by exact HM)).mono ?_;rintro e w3 ⟨rfl,hb3⟩
    go_wp2_with fail
    refine(cN (t.extract 0 i)[0] _).mono ?_;rintro e w4 ⟨rfl,rfl⟩
    go_wp2_with fail
    refine bodyPost_ret (aF rfl _ _ _) rfl ?_
    refine⟨u,t.extract 0 i,t.extract (i+1) t.size,cv (t.extract 0 i)[0],rfl,?_,by omega,hz2,hz1,ap (ap hb1.drew hb2) hb3⟩
    rw[HE.out]
    cases hd:cv (t.extract 0 i)[0]
    ·rw[dU _ _ i HL.out (.inr (.inr (by rw[←du,dC _ hp];exact hd)))];rfl
    ·rw[kN _ _ i HL.out HR'.out HM'.out (by rw[←du,dC _ hp];exact hd),if_pos rfl,du,cC]
theorem mF (s u:BA)(w:World)(hG:Gl w)(hs:s.size≤64)(hk:vD s ⟨#[58]⟩=true)(hu:u=gf s ⟨#[58]⟩)
  (hn:¬ (jY (bl u)=true∧u.size≤9)):
  Calls Tryz.prog 120 #[.string s] w (bT (gW (bl s)) w):=by
 have HG:=ae hG;clear hG
 have HE:Hid (gW (bl s)=none):=by
  show _=_;unfold gW;rw[vO (bl s) hk (by rw[hu,←ah,dE] at hn;exact hn)]
 have hus:u.size≤64:=by have:=qn s ⟨#[58]⟩;rw[hu];omega
 have hu':=hu.symm;clear hu
 cases hb:jY (bl u)
 ·have HN:=ae hb;clear hb hn
  go_enter Tryz.func120,Tryz.ntmps120
  go_wp2_with fail
  refine(bH s _ _ HG.out (by omega)).mono ?_;rintro e w1 ⟨rfl,hb1⟩
  go_wp2_with fail
  refine(aO _ _ _ (by omega) HN).mono ?_;rintro e w1' ⟨rfl,rfl⟩
  go_wp2_with fail
  refine bodyPost_ret (aF rfl _ _ _) rfl ?_
  exact bT.no HE.out hb1
 ·have hl:9<u.size:=by rw[hb] at hn;simp at hn;omega
  have HN:=ae hb;clear hb hn
  go_enter Tryz.func120,Tryz.ntmps120
  go_wp2_with fail
  refine(bH s _ _ HG.out (by omega)).mono ?_;rintro e w1 ⟨rfl,hb1⟩
  go_wp2_with fail
  refine(aO _ _ _ (by omega) HN).mono ?_;rintro e w1' ⟨rfl,rfl⟩
  go_wp2_with fail
  refine bodyPost_ret (aF rfl _ _ _) rfl ?_
  exact bT.no HE.out hb1
theorem nt (s:BA)(w:World)(hG:Gl w)(hs:s.size≤64):
  Calls Tryz.prog 120 #[.string s] w (bT (gW (bl s)) w):=by
 cases hk:vD s ⟨#[58]⟩
 ·exact mD s w hG hs hk
 ·by_cases hn:jY (bl (gf s ⟨#[58]⟩))=true∧(gf s ⟨#[58]⟩).size≤9
  ·exact mE s _ _ w hG hs hk rfl rfl hn.1 hn.2
  ·exact mF s _ w hG hs hk rfl hn
def nu (r:Option (LU×LU×LU))(w:World)(e:Ending)(w':World):Prop:=
 ∃ (ep pr rv:BA) (c:Int),e=.returned (.tuple #[.string ep,.string pr,.string rv,.int .i64 c])∧(match r with | some (a,b,d)=>c=0∧bl ep=a∧bl pr=b∧bl rv=d | none=>c=3∧ep=⟨#[]⟩∧pr=⟨#[]⟩∧rv=⟨#[]⟩)∧Below w.heap.size w w'
theorem mG (s:BA)(w:World)(hG:Gl w)(hs:s.size≤64):
  Calls Tryz.prog 82 #[.int .i64 1,.string s] w (nu (gW (bl s)) w):=by
 have HG:=ae hG;clear hG
 go_enter Tryz.func82,Tryz.ntmps82
 go_wp2_with fail
 refine(nt s _ HG.out hs).mono ?_
 rintro e w1 ⟨ep,pr,rv,ok,rfl,hr,h1,h2,h3,hb1⟩
 have HR:=ae hr;clear hr
 cases ok
 ·go_wp2_with fail
  refine bodyPost_ret (aF rfl _ _ _) rfl ?_
  exact⟨⟨#[]⟩,⟨#[]⟩,⟨#[]⟩,3,rfl,by rw[HR.out];exact⟨rfl,rfl,rfl,rfl⟩,hb1⟩
 ·go_wp2_with fail
  refine bodyPost_ret (aF rfl _ _ _) rfl ?_
  exact⟨ep,pr,rv,0,rfl,by rw[HR.out];exact⟨rfl,rfl,rfl,rfl⟩,hb1⟩
end
end Go.Proofs.YtlglfpbhapmhiaaGreatDoor
