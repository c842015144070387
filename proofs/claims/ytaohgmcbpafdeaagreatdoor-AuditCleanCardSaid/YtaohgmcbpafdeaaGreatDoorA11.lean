/- A part of the proof. -/
import Derived.Test.YtaohgmcbpafdeaaGreatDoorA04
import Derived.Test.YtaohgmcbpafdeaaGreatDoorA07
import Derived.Test.YtaohgmcbpafdeaaGreatDoorA09
import Derived.Test.YtaohgmcbpafdeaaGreatDoorA10
set_option maxRecDepth 100000
set_option maxHeartbeats 20000000
set_option linter.unusedVariables false
set_option linter.unusedSimpArgs false
namespace Go.Proofs.YtaohgmcbpafdeaaGreatDoor
section
open Go.RowKit
def uz (s:BA)(c:UInt8):Int:=Lib.indexByte (bl s) c
theorem fg (s:BA)(c:UInt8)(h:(bl s).contains c=false):uz s c<0:=by
 have:=Lib.contains_iff_indexByte (bl s) c
 rw[h] at this;unfold uz
 have h2:=of_decide_eq_false this.symm;omega
theorem fH (s:BA)(c:UInt8)(h:(bl s).contains c=true):0≤uz s c:=by
 have:=Lib.contains_iff_indexByte (bl s) c
 rw[h] at this;unfold uz
 exact dO this.symm
theorem aM (s:BA)(c:UInt8)(w:World):
  Calls Tryz.prog 107 #[.string s,.int .u8 c.toNat] w fun e w'=>e=.returned (.int .i64 (uz s c))∧w=w':=
 (Tryz.strings_IndexByte s c.toNat w).mono fun _ _ ⟨he,hw⟩=>⟨by rw[he];simp[uz,bl],hw.symm⟩
theorem pO (s:BA)(w:World)(hs:s.size≤9223372036854775807):
  Calls Tryz.prog 106 #[.string s] w fun e w'=>e=.returned (.bool (lL (bl s)))∧w=w':=by
 by_cases h0:s.size=0
 ·have he:s.toList=[]:=by rw[ah,bG s h0]
  go_enter Tryz.func106,Tryz.ntmps106
  go_wp2
  go_ret
  exact⟨af (wH s h0).symm,rfl⟩
 ·have h1:0<s.size:=by omega
  have he:s.toList.isEmpty=false:=by rw[ah,aT];simpa using h0
  have he':¬ s.toList=[]:=by intro h;rw[h] at he;simp at he
  go_enter Tryz.func106,Tryz.ntmps106
  go_wp2
  all_goals go_ret
  all_goals (refine⟨af ?_,rfl⟩;rw[yA s h1,bI];simp[oS,gK,cu];omega)
theorem iI (s:BA)(k:Nat)(h:k<s.size)(w:World)(hs:s.size≤9223372036854775807):
  Calls Tryz.prog 106 #[.string (s.extract k s.size)] w fun e w'=>e=.returned (.bool (oS s[k]))∧w=w':=
 (pO (s.extract k s.size) w (by simp[ByteArray.size_extract];omega)).mono fun _ _ ⟨he,hw⟩=>⟨by rw[he,wI s k h],hw⟩
theorem vp (s o:BA)(w:World)(hs:s.size≤9223372036854775807):
  Calls Tryz.prog 75 #[.string s,.string o] w fun e w'=>e=.returned (.bool (mK (bl o) (bl s)))∧w=w':=by
 go_enter Tryz.func75,Tryz.ntmps75
 go_wp2
 go_loop [8] (fun i=>∃ k:Nat,k≤s.size∧i=.int .i64 k∧Hid (((bl s).take k).all (fun c=>oS c||(bl o).contains c)=true)) (fun i=>s.size-(intOf i).toNat)
 case atStart=>exact⟨0,z0,rfl,by simp[Hid]⟩
 case round=>
  obtain⟨k,hk,rfl,hw⟩:=hrel
  by_cases hlt:k<s.size
  ·cases hl:oS s[k]
   ·cases hc:(bl o).contains s[k]
    ·have hn:=fg o s[k] hc
     have HC:=ae hc;clear hc
     go_wp2_with (first | (go_at_call 106;refine(iI s k hlt _ hs).mono ?_;rintro e w' ⟨rfl,rfl⟩) | (go_at_call 107;refine(aM o s[k] _).mono ?_;rintro e w' ⟨rfl,rfl⟩))
     go_ret
     exact⟨af (EH _ s k hlt hl HC.out).symm,rfl⟩
    ·have hn:=fH o s[k] hc
     have HC:=ae hc;clear hc
     go_wp2_with (first | (go_at_call 106;refine(iI s k hlt _ hs).mono ?_;rintro e w' ⟨rfl,rfl⟩) | (go_at_call 107;refine(aM o s[k] _).mono ?_;rintro e w' ⟨rfl,rfl⟩))
     go_round
     case rel=>exact⟨k+1,by omega,by go_num,rB _ s k hlt hw.out (by rw[HC.out];simp)⟩
     case measure=>simp[intOf];omega
   ·go_wp2_with (first | (go_at_call 106;refine(iI s k hlt _ hs).mono ?_;rintro e w' ⟨rfl,rfl⟩))
    go_round
    case rel=>exact⟨k+1,by omega,by go_num,rB _ s k hlt hw.out (by rw[hl];simp)⟩
    case measure=>simp[intOf];omega
  ·go_wp2_with (go_at_call 106;refine(pO s _ hs).mono ?_;rintro e w' ⟨rfl,rfl⟩)
   go_ret
   exact⟨af (Bj _ s k hlt hw.out).symm,rfl⟩
theorem lM (s:BA)(w:World)(hs:s.size≤9223372036854775807):
  Calls Tryz.prog 51 #[.string s] w fun e w'=>e=.returned (.bool (dy (bl s)))∧w=w':=by
 have hb:=ag s
 have HB:=ae hb;clear hb
 by_cases h2:2≤s.size
 ·by_cases h3:s.size≤64
  ·go_enter Tryz.func51,Tryz.ntmps51
   go_wp2_with (go_at_call 75;refine(vp s _ _ hs).mono ?_;rintro e w' ⟨rfl,rfl⟩)
   go_ret
   exact⟨af (by unfold dy;rw[HB.out,dT h2,dT h3];simp[bl]),rfl⟩
  ·go_enter Tryz.func51,Tryz.ntmps51
   go_wp2_with fail
   go_ret
   exact⟨af (by unfold dy;rw[HB.out,dF h3];simp),rfl⟩
 ·go_enter Tryz.func51,Tryz.ntmps51
  go_wp2_with fail
  go_ret
  exact⟨af (by unfold dy;rw[HB.out,dF h2];simp),rfl⟩
theorem fh (p:UInt8→Bool)(l:LU):aA p l≤l.length:=by
 unfold aA;exact(List.takeWhile_sublist p).length_le
theorem Le (p:UInt8→Bool)(l:LU):decide (aA p l=l.length)=l.all p:=by
 rw[bI]
 constructor
 ·intro h
  have h:=dO h
  have:=(List.takeWhile_sublist p (l:=l)).eq_of_length h
  rw[←this];simp
 ·intro h
  unfold aA;rw[js _ h];simp
theorem yD (p:UInt8→Bool)(s:BA):(((aA p (bl s):Nat):Int)==(s.size:Int))=(bl s).all p:=by
 rw[←Le,ag,bI];simp;omega
theorem kL (s:BA)(j:Nat)(c:UInt8)(h:j<s.size):((s.data[j]!).toNat:Int)=c.toNat↔(bl s)[j]?=some c:=by
 rw[cZ s j h]
 have e:s.data[j]! = s[j]:=getElem!_pos s.data j h
 rw[e]
 constructor
 ·intro hh;congr 1;apply UInt8.toNat_inj.1;omega
 ·intro hh;injection hh with hh;rw[hh]
theorem wL (s:BA)(j:Nat)(h:¬ j<s.size):(bl s)[j]?=none:=by
 apply List.getElem?_eq_none;rw[ag];omega
theorem yE (s:BA)(c:UInt8)(h:dH c (bl s)=none):Lib.lastIndexByte s c.toNat=-1:=by
 rcases Lib.lastIndexByte_spec s c.toNat with⟨e,_⟩ | ⟨i,hi,e,hc,hn⟩
 ·exact e
 ·have:=mM c (bl s) i ((kL s i c hi).1 hc) (fun j hj hh=>by
   by_cases hjs:j<s.size
   ·exact hn j hj hjs ((kL s j c hjs).2 hh)
   ·rw[wL s j hjs] at hh;cases hh)
  rw[this] at h;cases h
theorem yF (s:BA)(c:UInt8)(i:Nat)(h:dH c (bl s)=some i):Lib.lastIndexByte s c.toNat=i:=by
 rcases Lib.lastIndexByte_spec s c.toNat with⟨e,hn⟩ | ⟨k,hk,e,hc,hn⟩
 ·have:=rC c (bl s) (fun j hh=>by
   by_cases hjs:j<s.size
   ·exact hn j hjs ((kL s j c hjs).2 hh)
   ·rw[wL s j hjs] at hh;cases hh)
  rw[this] at h;cases h
 ·have:=mM c (bl s) k ((kL s k c hk).1 hc) (fun j hj hh=>by
   by_cases hjs:j<s.size
   ·exact hn j hj hjs ((kL s j c hjs).2 hh)
   ·rw[wL s j hjs] at hh;cases hh)
  rw[this] at h;injection h with h;rw[e,h]
theorem uA (c:UInt8)(a:Addr)(o:BA)(w:World)(ha:w.cell? a=some (.string o)):
  Calls Tryz.prog 184 #[.int .u8 c.toNat,.pointer (some a)] w fun e w'=>e=.returned (.bool (jF c||cu c||(bl o).contains c))∧w=w':=by
 cases h1:jF c
 ·cases h2:cu c
  ·cases h3:(bl o).contains c
   ·have hn:=fg o c h3
    have H3:=ae h3;clear h3
    go_enter Tryz.func184,Tryz.ntmps184
    go_wp2_with (first | (go_at_call 185;refine(fI _ _).mono ?_;rintro e w' ⟨rfl,rfl⟩) | (go_at_call 148;refine(cQ _ _).mono ?_;rintro e w' ⟨rfl,rfl⟩) | (go_at_call 107;refine(aM _ _ _).mono ?_;rintro e w' ⟨rfl,rfl⟩))
    go_ret
    exact⟨af dF,rfl⟩
   ·have hn:=fH o c h3
    have H3:=ae h3;clear h3
    go_enter Tryz.func184,Tryz.ntmps184
    go_wp2_with (first | (go_at_call 185;refine(fI _ _).mono ?_;rintro e w' ⟨rfl,rfl⟩) | (go_at_call 148;refine(cQ _ _).mono ?_;rintro e w' ⟨rfl,rfl⟩) | (go_at_call 107;refine(aM _ _ _).mono ?_;rintro e w' ⟨rfl,rfl⟩))
    go_ret
    exact⟨af rfl,rfl⟩
  ·go_enter Tryz.func184,Tryz.ntmps184
   go_wp2_with (first | (go_at_call 185;refine(fI _ _).mono ?_;rintro e w' ⟨rfl,rfl⟩) | (go_at_call 148;refine(cQ _ _).mono ?_;rintro e w' ⟨rfl,rfl⟩))
   go_ret
   exact⟨rfl,rfl⟩
 ·go_enter Tryz.func184,Tryz.ntmps184
  go_wp2_with (first | (go_at_call 185;refine(fI _ _).mono ?_;rintro e w' ⟨rfl,rfl⟩))
  go_ret
  exact⟨rfl,rfl⟩
theorem EJ (s o:BA)(a:Addr)(w:World)(ha:w.cell? a=some (.string o))(hs:s.size≤9223372036854775807):
  Calls Tryz.prog 151 #[.string s,.func (.func 184) #[] #[.pointer (some a)]] w fun e w'=>e=.returned (.int .i64 (aA (Oj (bl o)) (bl s)))∧w=w':=
 wJ _ _ _ s w hs Tryz.call184 (ae fun c=>uA c a o w ha)
theorem wM (s o:BA)(w:World)(hs:s.size≤9223372036854775807):
  Calls Tryz.prog 147 #[.string s,.string o] w fun e w'=>e=.returned (.bool (bm (bl o) (bl s)))∧Below w.heap.size w w':=by
 by_cases h0:s.size=0
 ·have he:s.toList=[]:=by rw[ah,bG s h0]
  go_enter Tryz.func147,Tryz.ntmps147
  go_wp2_with fail
  go_ret
  exact⟨af (by rw[bG s h0];rfl),bR.alloc lr _⟩
 ·have he:s.toList.isEmpty=false:=by rw[ah,aT];simpa using h0
  have he':¬ s.toList=[]:=by intro h;rw[h] at he;simp at he
  go_enter Tryz.func147,Tryz.ntmps147
  go_wp2_with (go_at_call 151;refine(EJ _ _ _ _ (by simp;rfl) hs).mono ?_;rintro e w' ⟨rfl,rfl⟩)
  go_ret
  refine⟨af ?_,bR.alloc lr _⟩
  rw[yD];unfold bm;rw[aT,dF h0];rfl
theorem rD (s:BA)(w:World)(hs:s.size≤9223372036854775807):
  Calls Tryz.prog 146 #[.string s] w fun e w'=>e=.returned (.bool (kf (bl s)))∧w=w':=by
 by_cases h0:s.size=0
 ·have he:s.toList=[]:=by rw[ah,bG s h0]
  go_enter Tryz.func146,Tryz.ntmps146
  go_wp2_with fail
  go_ret
  exact⟨af (by rw[bG s h0];rfl),rfl⟩
 ·have he:s.toList.isEmpty=false:=by rw[ah,aT];simpa using h0
  have he':¬ s.toList=[]:=by intro h;rw[h] at he;simp at he
  go_enter Tryz.func146,Tryz.ntmps146
  go_wp2_with (go_at_call 151;refine(vr _ _ hs).mono ?_;rintro e w' ⟨rfl,rfl⟩)
  go_ret
  refine⟨af ?_,rfl⟩
  rw[yD];unfold kf;rw[aT,dF h0];rfl
theorem cS (s:BA)(c:UInt8)(w:World)(hs:s.size≤9223372036)(h:Hid (dH c (bl s)=none)):
  Calls Tryz.prog 119 #[.string s,.int .u8 c.toNat] w fun e w'=>e=.returned (.int .i64 (-1))∧w=w':=
 (Tryz.strings_LastIndexByte s c.toNat (by omega) w).mono fun _ _ ⟨he,hw⟩=>⟨by rw[he,yE s c h.out],hw.symm⟩
theorem bE (s:BA)(c:UInt8)(i:Nat)(w:World)(hs:s.size≤9223372036)(h:Hid (dH c (bl s)=some i)):
  Calls Tryz.prog 119 #[.string s,.int .u8 c.toNat] w fun e w'=>e=.returned (.int .i64 i)∧w=w':=
 (Tryz.strings_LastIndexByte s c.toNat (by omega) w).mono fun _ _ ⟨he,hw⟩=>⟨by rw[he,yF s c i h.out],hw.symm⟩
theorem bD (s sep:BA)(w:World)(hG:Gl w)(hs:s.size≤4294967280):
  Calls Tryz.prog 145 #[.string s,.string sep] w fun e w'=>e=.returned (.tuple #[.string (fX s sep),.string (ki s sep),.bool (wK s sep)])∧Below w.heap.size w w':=by
 obtain⟨m,hm⟩:=hG.ml
 exact(Tryz.strings_Cut s sep m w (by omega) hm).mono fun _ _ ⟨he,n,hw⟩=>⟨he,by rw[hw];exact an bR n⟩
theorem aE {fn:Func}{t u v x:Tmp}(h:fn.results=#[.tmp t,.tmp u,.tmp v,.tmp x])(tmps:Array Value)(P:Program)(w:World):
  (results fn tmps).run P w=.ok (.tuple #[tmps.getD t undef,tmps.getD u undef,tmps.getD v undef,tmps.getD x undef]) w:=by simp[results,h]
def bP (r:Option (LU×LU×LU))(w:World)(e:Ending)(w':World):Prop:=
 ∃ (ep pr rv:BA) (ok:Bool),e=.returned (.tuple #[.string ep,.string pr,.string rv,.bool ok])∧r=(if ok=true then some (bl ep,bl pr,bl rv) else none)∧ep.size≤64∧pr.size≤64∧rv.size≤64∧Below w.heap.size w w'
theorem bP.no {r:Option (LU×LU×LU)}{w w':World}(h:r=none)(hb:Below w.heap.size w w'):bP r w (.returned (.tuple #[.string ⟨#[]⟩,.string ⟨#[]⟩,.string ⟨#[]⟩,.bool false])) w':=
 ⟨_,_,_,_,rfl,h,by decide,by decide,by decide,hb⟩
theorem yG (l:LU)(h:(Lib.cut l [58]).2.2=false):kh l=some ([],l):=by simp[kh,h]
theorem EK (l:LU)(h:(Lib.cut l [58]).2.2=true)(h1:kf (Lib.cut l [58]).1=true)(h2:(Lib.cut l [58]).1.length≤9):kh l=some ((Lib.cut l [58]).1,(Lib.cut l [58]).2.1):=by simp[kh,h,h1,h2]
theorem wN (l:LU)(h:(Lib.cut l [58]).2.2=true)(h1:¬ (kf (Lib.cut l [58]).1=true∧(Lib.cut l [58]).1.length≤9)):kh l=none:=by simp[kh,h,h1]
theorem gC (ep p:LU)(h:dH 45 p=none)(h1:bm [46,43,126,45] p=false∨kg p=false):(kK p).map (fun r=>(ep,r.1,r.2))=none:=by
 unfold kK;rw[h];rcases h1 with h1 | h1<;>simp[h1]
theorem kM (ep p:LU)(h:dH 45 p=none)(h1:bm [46,43,126,45] p=true)(h2:kg p=true):(kK p).map (fun r=>(ep,r.1,r.2))=some (ep,p,[]):=by
 unfold kK;rw[h];simp[h1,h2]
theorem dW (ep p:LU)(i:Nat)(h:dH 45 p=some i)(h1:bm [46,43,126] (p.drop (i+1))=false∨bm [46,43,126,45] (p.take i)=false∨kg (p.take i)=false):(kK p).map (fun r=>(ep,r.1,r.2))=none:=by
 unfold kK;rw[h];rcases h1 with h1 | h1 | h1<;>simp[h1]
theorem kN (ep p:LU)(i:Nat)(h:dH 45 p=some i)(h0:bm [46,43,126] (p.drop (i+1))=true)(h1:bm [46,43,126,45] (p.take i)=true)(h2:kg (p.take i)=true):(kK p).map (fun r=>(ep,r.1,r.2))=some (ep,p.take i,p.drop (i+1)):=by
 unfold kK;rw[h];simp[h0,h1,h2]
theorem aB (s o:BA)(b:Bool)(w:World)(hs:s.size≤9223372036854775807)(h:Hid (bm (bl o) (bl s)=b)):
  Calls Tryz.prog 147 #[.string s,.string o] w fun e w'=>e=.returned (.bool b)∧Below w.heap.size w w':=by
 rw[←h.out];exact wM s o w hs
theorem aK (s:BA)(b:Bool)(w:World)(hs:s.size≤9223372036854775807)(h:Hid (kf (bl s)=b)):
  Calls Tryz.prog 146 #[.string s] w fun e w'=>e=.returned (.bool b)∧w=w':=by
 rw[←h.out];exact rD s w hs
theorem mN (s:BA)(w:World)(hG:Gl w)(hs:s.size≤64)(hk:wK s ⟨#[58]⟩=false):
  Calls Tryz.prog 108 #[.string s] w (bP (gV (bl s)) w):=by
 have HG:=ae hG;clear hG
 have HE:Hid (gV (bl s)=(kK (bl s)).map fun r=>([],r.1,r.2)):=by
  show _=_;unfold gV;rw[yG (bl s) hk]
 cases hl:dH 45 (bl s) with
 | none=>
  have HL:=ae hl;clear hl
  cases hm:bm [46,43,126,45] (bl s)
  ·have HM:=ae hm;clear hm
   go_enter Tryz.func108,Tryz.ntmps108
   go_wp2_with fail
   refine(bD s _ _ HG.out (by omega)).mono ?_;rintro e w1 ⟨rfl,hb1⟩
   go_wp2_with fail
   refine(cS s 45 _ (by omega) HL).mono ?_;rintro e w2 ⟨rfl,rfl⟩
   go_wp2_with fail
   refine(aB _ _ false _ (by omega) (by exact HM)).mono ?_;rintro e w2 ⟨rfl,hb2⟩
   go_wp2_with fail
   refine bodyPost_ret (aE rfl _ _ _) rfl ?_
   exact⟨⟨#[]⟩,s,⟨#[]⟩,false,rfl,by rw[HE.out,gC _ _ HL.out (.inl HM.out)];rfl,by decide,by omega,by decide,aq hb1 hb2⟩
  ·have HM:=ae hm
   have hp:=lN _ _ hm;clear hm
   go_enter Tryz.func108,Tryz.ntmps108
   go_wp2_with fail
   refine(bD s _ _ HG.out (by omega)).mono ?_;rintro e w1 ⟨rfl,hb1⟩
   go_wp2_with fail
   refine(cS s 45 _ (by omega) HL).mono ?_;rintro e w2 ⟨rfl,rfl⟩
   go_wp2_with fail
   refine(aB _ _ true _ (by omega) (by exact HM)).mono ?_;rintro e w2 ⟨rfl,hb2⟩
   go_wp2_with fail
   refine(cQ s[0] _).mono ?_;rintro e w3 ⟨rfl,rfl⟩
   go_wp2_with fail
   refine bodyPost_ret (aE rfl _ _ _) rfl ?_
   refine⟨⟨#[]⟩,s,⟨#[]⟩,cu s[0],rfl,?_,by decide,by omega,by decide,aq hb1 hb2⟩
   rw[HE.out]
   cases hd:cu s[0]
   ·rw[gC _ _ HL.out (.inr (by rw[dI _ hp];exact hd))];rfl
   ·rw[kM _ _ HL.out HM.out (by rw[dI _ hp];exact hd)];rfl
 | some i=>
  have hi:=nK _ _ _ hl
  rw[ag] at hi
  have HL:=ae hl;clear hl
  have hz1:(s.extract (i+1) s.size).size≤64:=by rw[ByteArray.size_extract];omega
  have hz2:(s.extract 0 i).size≤64:=by rw[ByteArray.size_extract];omega
  cases hr:bm [46,43,126] ((bl s).drop (i+1))
  ·have HR:Hid (bm [46,43,126] (bl (s.extract (i+1) s.size))=false):=by show _=_;rw[cv];exact hr
   have HR':=ae hr;clear hr
   go_enter Tryz.func108,Tryz.ntmps108
   go_wp2_with fail
   refine(bD s _ _ HG.out (by omega)).mono ?_;rintro e w1 ⟨rfl,hb1⟩
   go_wp2_with fail
   refine(bE s 45 i _ (by omega) HL).mono ?_;rintro e w2 ⟨rfl,rfl⟩
   go_wp2_with fail
   go_region
   go_wp2_with fail
   refine(aB (s.extract (i+1) s.size) ⟨#[46,43,126]⟩ false _ (by omega) (by exact HR)).mono ?_;rintro e w2 ⟨rfl,hb2⟩
   go_wp2_with fail
   refine bodyPost_ret (aE rfl _ _ _) rfl ?_
   exact bP.no (by rw[HE.out,dW _ _ i HL.out (.inl HR'.out)]) (aq hb1.drew hb2)
  ·have HR:Hid (bm [46,43,126] (bl (s.extract (i+1) s.size))=true):=by show _=_;rw[cv];exact hr
   have HR':=ae hr;clear hr
   cases hm:bm [46,43,126,45] ((bl s).take i)
   ·have HM:Hid (bm [46,43,126,45] (bl (s.extract 0 i))=false):=by show _=_;rw[dw];exact hm
    have HM':=ae hm;clear hm
    go_enter Tryz.func108,Tryz.ntmps108
    go_wp2_with fail
    refine(bD s _ _ HG.out (by omega)).mono ?_;rintro e w1 ⟨rfl,hb1⟩
    go_wp2_with fail
    refine(bE s 45 i _ (by omega) HL).mono ?_;rintro e w2 ⟨rfl,rfl⟩
    go_wp2_with fail
    go_region
    go_wp2_with fail
    refine(aB (s.extract (i+1) s.size) ⟨#[46,43,126]⟩ true _ (by omega) (by exact HR)).mono ?_;rintro e w2 ⟨rfl,hb2⟩
    go_wp2_with fail
    refine(aB (s.extract 0 i) ⟨#[46,43,126,45]⟩ false _ (by omega) (by exact HM)).mono ?_;rintro e w3 ⟨rfl,hb3⟩
    go_wp2_with fail
    refine bodyPost_ret (aE rfl _ _ _) rfl ?_
    exact⟨⟨#[]⟩,s.extract 0 i,s.extract (i+1) s.size,false,rfl,by rw[HE.out,dW _ _ i HL.out (.inr (.inl HM'.out))];rfl,by decide,hz2,hz1,aq (aq hb1.drew hb2) hb3⟩
   ·have HM:Hid (bm [46,43,126,45] (bl (s.extract 0 i))=true):=by show _=_;rw[dw];exact hm
    have hp:=lN _ (s.extract 0 i) HM.out
    have hp':0<min i s.size:=by rw[ByteArray.size_extract] at hp;omega
    have HM':=ae hm;clear hm
    go_enter Tryz.func108,Tryz.ntmps108
    go_wp2_with fail
    refine(bD s _ _ HG.out (by omega)).mono ?_;rintro e w1 ⟨rfl,hb1⟩
    go_wp2_with fail
    refine(bE s 45 i _ (by omega) HL).mono ?_;rintro e w2 ⟨rfl,rfl⟩
    go_wp2_with fail
    go_region
    go_wp2_with fail
    refine(aB (s.extract (i+1) s.size) ⟨#[46,43,126]⟩ true _ (by omega) (by exact HR)).mono ?_;rintro e w2 ⟨rfl,hb2⟩
    go_wp2_with fail
    refine(aB (s.extract 0 i) ⟨#[46,43,126,45]⟩ true _ (by omega) (by exact HM)).mono ?_;rintro e w3 ⟨rfl,hb3⟩
    go_wp2_with fail
    refine(cQ (s.extract 0 i)[0] _).mono ?_;rintro e w4 ⟨rfl,rfl⟩
    go_wp2_with fail
    refine bodyPost_ret (aE rfl _ _ _) rfl ?_
    refine⟨⟨#[]⟩,s.extract 0 i,s.extract (i+1) s.size,cu (s.extract 0 i)[0],rfl,?_,by decide,hz2,hz1,aq (aq hb1.drew hb2) hb3⟩
    rw[HE.out]
    cases hd:cu (s.extract 0 i)[0]
    ·rw[dW _ _ i HL.out (.inr (.inr (by rw[←dw,dI _ hp];exact hd)))];rfl
    ·rw[kN _ _ i HL.out HR'.out HM'.out (by rw[←dw,dI _ hp];exact hd),if_pos rfl,dw,cv];rfl
theorem mO (s t u:BA)(w:World)(hG:Gl w)(hs:s.size≤64)(hk:wK s ⟨#[58]⟩=true)(ht:t=ki s ⟨#[58]⟩)(hu:u=fX s ⟨#[58]⟩)
  (hn:kf (bl u)=true)(hl:u.size≤9):
  Calls Tryz.prog 108 #[.string s] w (bP (gV (bl s)) w):=by
 have HG:=ae hG;clear hG
 have HE:Hid (gV (bl s)=(kK (bl t)).map fun r=>(bl u,r.1,r.2)):=by
  show _=_;unfold gV;rw[EK (bl s) hk (by rw[hu,dJ] at hn;exact hn) (by rw[hu,←ag,dJ] at hl;exact hl),ht,hu,fJ,dJ];rfl
 have hts:t.size≤64:=by have:=qV s ⟨#[58]⟩;rw[ht];omega
 have HN:=ae hn;clear hn
 have ht':=ht.symm;have hu':=hu.symm;clear ht hu
 cases hl:dH 45 (bl t) with
 | none=>
  have HL:=ae hl;clear hl
  cases hm:bm [46,43,126,45] (bl t)
  ·have HM:=ae hm;clear hm
   go_enter Tryz.func108,Tryz.ntmps108
   go_wp2_with fail
   refine(bD s _ _ HG.out (by omega)).mono ?_;rintro e w1 ⟨rfl,hb1⟩
   go_wp2_with fail
   refine(aK _ _ _ (by omega) HN).mono ?_;rintro e w1' ⟨rfl,rfl⟩
   go_wp2_with fail
   refine(cS t 45 _ (by omega) HL).mono ?_;rintro e w2 ⟨rfl,rfl⟩
   go_wp2_with fail
   refine(aB _ _ false _ (by omega) (by exact HM)).mono ?_;rintro e w2 ⟨rfl,hb2⟩
   go_wp2_with fail
   refine bodyPost_ret (aE rfl _ _ _) rfl ?_
   exact⟨u,t,⟨#[]⟩,false,rfl,by rw[HE.out,gC _ _ HL.out (.inl HM.out)];rfl,by omega,by omega,by decide,aq hb1 hb2⟩
  ·have HM:=ae hm
   have hp:=lN _ _ hm;clear hm
   go_enter Tryz.func108,Tryz.ntmps108
   go_wp2_with fail
   refine(bD s _ _ HG.out (by omega)).mono ?_;rintro e w1 ⟨rfl,hb1⟩
   go_wp2_with fail
   refine(aK _ _ _ (by omega) HN).mono ?_;rintro e w1' ⟨rfl,rfl⟩
   go_wp2_with fail
   refine(cS t 45 _ (by omega) HL).mono ?_;rintro e w2 ⟨rfl,rfl⟩
   go_wp2_with fail
   refine(aB _ _ true _ (by omega) (by exact HM)).mono ?_;rintro e w2 ⟨rfl,hb2⟩
   go_wp2_with fail
   refine(cQ t[0] _).mono ?_;rintro e w3 ⟨rfl,rfl⟩
   go_wp2_with fail
   refine bodyPost_ret (aE rfl _ _ _) rfl ?_
   refine⟨u,t,⟨#[]⟩,cu t[0],rfl,?_,by omega,by omega,by decide,aq hb1 hb2⟩
   rw[HE.out]
   cases hd:cu t[0]
   ·rw[gC _ _ HL.out (.inr (by rw[dI _ hp];exact hd))];rfl
   ·rw[kM _ _ HL.out HM.out (by rw[dI _ hp];exact hd)];rfl
 | some i=>
  have hi:=nK _ _ _ hl
  rw[ag] at hi
  have HL:=ae hl;clear hl
  have hz1:(t.extract (i+1) t.size).size≤64:=by rw[ByteArray.size_extract];omega
  have hz2:(t.extract 0 i).size≤64:=by rw[ByteArray.size_extract];omega
  cases hr:bm [46,43,126] ((bl t).drop (i+1))
  ·have HR:Hid (bm [46,43,126] (bl (t.extract (i+1) t.size))=false):=by show _=_;rw[cv];exact hr
   have HR':=ae hr;clear hr
   go_enter Tryz.func108,Tryz.ntmps108
   go_wp2_with fail
   refine(bD s _ _ HG.out (by omega)).mono ?_;rintro e w1 ⟨rfl,hb1⟩
   go_wp2_with fail
   refine(aK _ _ _ (by omega) HN).mono ?_;rintro e w1' ⟨rfl,rfl⟩
   go_wp2_with fail
   refine(bE t 45 i _ (by omega) HL).mono ?_;rintro e w2 ⟨rfl,rfl⟩
   go_wp2_with fail
   go_region
   go_wp2_with fail
   refine(aB (t.extract (i+1) t.size) ⟨#[46,43,126]⟩ false _ (by omega) (by exact HR)).mono ?_;rintro e w2 ⟨rfl,hb2⟩
   go_wp2_with fail
   refine bodyPost_ret (aE rfl _ _ _) rfl ?_
   exact bP.no (by rw[HE.out,dW _ _ i HL.out (.inl HR'.out)]) (aq hb1.drew hb2)
  ·have HR:Hid (bm [46,43,126] (bl (t.extract (i+1) t.size))=true):=by show _=_;rw[cv];exact hr
   have HR':=ae hr;clear hr
   cases hm:bm [46,43,126,45] ((bl t).take i)
   ·have HM:Hid (bm [46,43,126,45] (bl (t.extract 0 i))=false):=by show _=_;rw[dw];exact hm
    have HM':=ae hm;clear hm
    go_enter Tryz.func108,Tryz.ntmps108
    go_wp2_with fail
    refine(bD s _ _ HG.out (by omega)).mono ?_;rintro e w1 ⟨rfl,hb1⟩
    go_wp2_with fail
    refine(aK _ _ _ (by omega) HN).mono ?_;rintro e w1' ⟨rfl,rfl⟩
    go_wp2_with fail
    refine(bE t 45 i _ (by omega) HL).mono ?_;rintro e w2 ⟨rfl,rfl⟩
    go_wp2_with fail
    go_region
    go_wp2_with fail
    refine(aB (t.extract (i+1) t.size) ⟨#[46,43,126]⟩ true _ (by omega) (by exact HR)).mono ?_;rintro e w2 ⟨rfl,hb2⟩
    go_wp2_with fail
    refine(aB (t.extract 0 i) ⟨#[46,43,126,45]⟩ false _ (by omega) (by exact HM)).mono ?_;rintro e w3 ⟨rfl,hb3⟩
    go_wp2_with fail
    refine bodyPost_ret (aE rfl _ _ _) rfl ?_
    exact⟨u,t.extract 0 i,t.extract (i+1) t.size,false,rfl,by rw[HE.out,dW _ _ i HL.out (.inr (.inl HM'.out))];rfl,by omega,hz2,hz1,aq (aq hb1.drew hb2) hb3⟩
   ·have HM:Hid (bm [46,43,126,45] (bl (t.extract 0 i))=true):=by show _=_;rw[dw];exact hm
    have hp:=lN _ (t.extract 0 i) HM.out
    have hp':0<min i t.size:=by rw[ByteArray.size_extract] at hp;omega
    have HM':=ae hm;clear hm
    go_enter Tryz.func108,Tryz.ntmps108
    go_wp2_with fail
    refine(bD s _ _ HG.out (by omega)).mono ?_;rintro e w1 ⟨rfl,hb1⟩
    go_wp2_with fail
    refine(aK _ _ _ (by omega) HN).mono ?_;rintro e w1' ⟨rfl,rfl⟩
    go_wp2_with fail
    refine(bE t 45 i _ (by omega) HL).mono ?_;rintro e w2 ⟨rfl,rfl⟩
    go_wp2_with fail
    go_region
    go_wp2_with fail
    refine(aB (t.extract (i+1) t.size) ⟨#[46,43,126]⟩ true _ (by omega) (by exact HR)).mono ?_;rintro e w2 ⟨rfl,hb2⟩
    go_wp2_with fail
    refine(aB (t.extract 0 i) ⟨#[46,43,126,45]⟩ true _ (by omega) (by exact HM)).mono ?_;rintro e w3 ⟨rfl,hb3⟩
    go_wp2_with fail
    refine(cQ (t.extract 0 i)[0] _).mono ?_;rintro e w4 ⟨rfl,rfl⟩
    go_wp2_with fail
    refine bodyPost_ret (aE rfl _ _ _) rfl ?_
    refine⟨u,t.extract 0 i,t.extract (i+1) t.size,cu (t.extract 0 i)[0],rfl,?_,by omega,hz2,hz1,aq (aq hb1.drew hb2) hb3⟩
    rw[HE.out]
    cases hd:cu (t.extract 0 i)[0]
    ·rw[dW _ _ i HL.out (.inr (.inr (by rw[←dw,dI _ hp];exact hd)))];rfl
    ·rw[kN _ _ i HL.out HR'.out HM'.out (by rw[←dw,dI _ hp];exact hd),if_pos rfl,dw,cv]
theorem mP (s u:BA)(w:World)(hG:Gl w)(hs:s.size≤64)(hk:wK s ⟨#[58]⟩=true)(hu:u=fX s ⟨#[58]⟩)
  (hn:¬ (kf (bl u)=true∧u.size≤9)):
  Calls Tryz.prog 108 #[.string s] w (bP (gV (bl s)) w):=by
 have HG:=ae hG;clear hG
 have HE:Hid (gV (bl s)=none):=by
  show _=_;unfold gV;rw[wN (bl s) hk (by rw[hu,←ag,dJ] at hn;exact hn)]
 have hus:u.size≤64:=by have:=qU s ⟨#[58]⟩;rw[hu];omega
 have hu':=hu.symm;clear hu
 cases hb:kf (bl u)
 ·have HN:=ae hb;clear hb hn
  go_enter Tryz.func108,Tryz.ntmps108
  go_wp2_with fail
  refine(bD s _ _ HG.out (by omega)).mono ?_;rintro e w1 ⟨rfl,hb1⟩
  go_wp2_with fail
  refine(aK _ _ _ (by omega) HN).mono ?_;rintro e w1' ⟨rfl,rfl⟩
  go_wp2_with fail
  refine bodyPost_ret (aE rfl _ _ _) rfl ?_
  exact bP.no HE.out hb1
 ·have hl:9<u.size:=by rw[hb] at hn;simp at hn;omega
  have HN:=ae hb;clear hb hn
  go_enter Tryz.func108,Tryz.ntmps108
  go_wp2_with fail
  refine(bD s _ _ HG.out (by omega)).mono ?_;rintro e w1 ⟨rfl,hb1⟩
  go_wp2_with fail
  refine(aK _ _ _ (by omega) HN).mono ?_;rintro e w1' ⟨rfl,rfl⟩
  go_wp2_with fail
  refine bodyPost_ret (aE rfl _ _ _) rfl ?_
  exact bP.no HE.out hb1
theorem nL (s:BA)(w:World)(hG:Gl w)(hs:s.size≤64):
  Calls Tryz.prog 108 #[.string s] w (bP (gV (bl s)) w):=by
 cases hk:wK s ⟨#[58]⟩
 ·exact mN s w hG hs hk
 ·by_cases hn:kf (bl (fX s ⟨#[58]⟩))=true∧(fX s ⟨#[58]⟩).size≤9
  ·exact mO s _ _ w hG hs hk rfl rfl hn.1 hn.2
  ·exact mP s _ w hG hs hk rfl hn
def nN (r:Option (LU×LU×LU))(w:World)(e:Ending)(w':World):Prop:=
 ∃ (ep pr rv:BA) (c:Int),e=.returned (.tuple #[.string ep,.string pr,.string rv,.int .i64 c])∧(match r with | some (a,b,d)=>c=0∧bl ep=a∧bl pr=b∧bl rv=d | none=>c=3∧ep=⟨#[]⟩∧pr=⟨#[]⟩∧rv=⟨#[]⟩)∧Below w.heap.size w w'
theorem mQ (s:BA)(w:World)(hG:Gl w)(hs:s.size≤64):
  Calls Tryz.prog 76 #[.int .i64 1,.string s] w (nN (gV (bl s)) w):=by
 have HG:=ae hG;clear hG
 go_enter Tryz.func76,Tryz.ntmps76
 go_wp2_with fail
 refine(nL s _ HG.out hs).mono ?_
 rintro e w1 ⟨ep,pr,rv,ok,rfl,hr,h1,h2,h3,hb1⟩
 have HR:=ae hr;clear hr
 cases ok
 ·go_wp2_with fail
  refine bodyPost_ret (aE rfl _ _ _) rfl ?_
  exact⟨⟨#[]⟩,⟨#[]⟩,⟨#[]⟩,3,rfl,by rw[HR.out];exact⟨rfl,rfl,rfl,rfl⟩,hb1⟩
 ·go_wp2_with fail
  refine bodyPost_ret (aE rfl _ _ _) rfl ?_
  exact⟨ep,pr,rv,0,rfl,by rw[HR.out];exact⟨rfl,rfl,rfl,rfl⟩,hb1⟩
theorem rR (s:BA)(c:UInt8)(h:(bl s).contains c=false):uz s c=-1:=by
 have h1:=fg s c h
 have h2:=Lib.indexByte_ge (bl s) c
 unfold uz at *;omega
theorem ra {T E:TypeId}{sz:Nat}(hT:Tryz.prog.underlying T=some (.slice (Tryz.prog.elem T)))(hE:Tryz.prog.elem T=E)(hs:∀ w,(sizeOf E).run Tryz.prog w=.ok sz w)
  {A:OA}{n c k b off:Nat}{i:Int}(hi:i=k)(hA:A=some ⟨b,off,none⟩)(hk:k<n)(w:World):(Instr.indexAt T (.slice A n c) (.int .i64 i)).run Tryz.prog w=.ok (.pointer (some ⟨b,off+k*sz,none⟩)) w:=by
 subst hi;exact aI hT hE hs hA hk w
end
end Go.Proofs.YtaohgmcbpafdeaaGreatDoor
