/- A part of the proof. -/
import Derived.Shelf.Strings.SlTrimAscii
import Derived.Test.YtlglfpbhapmhiaaGreatDoorL04
import Derived.Test.YtlglfpbhapmhiaaGreatDoorL05
import Derived.Test.YtlglfpbhapmhiaaGreatDoorL07
import Derived.Test.YtlglfpbhapmhiaaGreatDoorL09
set_option maxRecDepth 100000
set_option maxHeartbeats 20000000
set_option linter.unusedVariables false
set_option linter.unusedSimpArgs false
namespace Go.Proofs.YtlglfpbhapmhiaaGreatDoor
section
open Go.RowKit
def wL (s:BA)(c:UInt8):Int:=Lib.indexByte (bl s) c
theorem gB (s:BA)(c:UInt8)(h:(bl s).contains c=false):wL s c<0:=by
 have:=Lib.contains_iff_indexByte (bl s) c;rw[h] at this;unfold wL;have h2:=of_decide_eq_false this.symm;omega
theorem gW (s:BA)(c:UInt8)(h:(bl s).contains c=true):0<=wL s c:=by
 have:=Lib.contains_iff_indexByte (bl s) c;rw[h] at this;unfold wL;exact dO this.symm
theorem aU (s:BA)(c:UInt8)(w:World):Calls Tryz.prog 119 #[.string s,.int .u8 c.toNat] w fun e w'=>e=.returned (.int .i64 (wL s c))/\w=w':=
 (Tryz.strings_IndexByte s c.toNat w).mono fun _ _ ⟨he,hw⟩=>⟨by rw[he];simp[wL,bl],hw.symm⟩
theorem rK (s:BA)(w:World)(hs:s.size<=9223372036854775807):Calls Tryz.prog 118 #[.string s] w fun e w'=>e=.returned (.bool (nC (bl s)))/\w=w':=by
 by_cases h0:s.size=0
 ·have he:s.toList=[]:=by rw[aj,bX s h0]
  go_in;go_wp2;go_ret;exact⟨af (za s h0).symm,rfl⟩
 ·have h1:0<s.size:=by omega
  have he:s.toList.isEmpty=false:=by rw[aj,bj];simpa using h0
  have he':¬ s.toList=[]:=by intro h;rw[h] at he;simp at he
  go_in;go_wp2
  all_goals go_ret
  all_goals (refine⟨af ?_,rfl⟩;rw[AN s h1,bI];simp[qE,jb,cN];omega)
theorem jV (s:BA)(k:Nat)(h:k<s.size)(w:World)(hs:s.size<=9223372036854775807):Calls Tryz.prog 118 #[.string (s.extract k s.size)] w fun e w'=>e=.returned (.bool (qE s[k]))/\w=w':=
 (rK (s.extract k s.size) w (by simp[ByteArray.size_extract];omega)).mono fun _ _ ⟨he,hw⟩=>⟨by rw[he,zb s k h],hw⟩
theorem xI (s o:BA)(w:World)(hs:s.size<=9223372036854775807):Calls Tryz.prog 81 #[.string s,.string o] w fun e w'=>e=.returned (.bool (oH (bl o) (bl s)))/\w=w':=by
 go_in;go_wp2;go_loop [8] (fun i=>∃ k:Nat,k<=s.size/\i=.int .i64 k/\Hid (((bl s).take k).all (fun c=>qE c||(bl o).contains c)=true)) (fun i=>s.size-(intOf i).toNat)
 case atStart=>exact⟨0,z0,rfl,by simp[Hid]⟩
 case round=>
  obtain⟨k,hk,rfl,hw⟩:=hrel;by_cases hlt:k<s.size
  ·cases hl:qE s[k]
   ·cases hc:(bl o).contains s[k]
    ·have hn:=gB o s[k] hc;have HC:=ae hc;clear hc;go_wp2_with (first | (go_at_call 118;refine(jV s k hlt _ hs).mono ?_;rintro e w' ⟨rfl,rfl⟩) | (go_at_call 119;refine(aU o s[k] _).mono ?_;rintro e w' ⟨rfl,rfl⟩));go_ret;exact⟨af (Ij _ s k hlt hl HC.out).symm,rfl⟩
    ·have hn:=gW o s[k] hc;have HC:=ae hc;clear hc;go_wp2_with (first | (go_at_call 118;refine(jV s k hlt _ hs).mono ?_;rintro e w' ⟨rfl,rfl⟩) | (go_at_call 119;refine(aU o s[k] _).mono ?_;rintro e w' ⟨rfl,rfl⟩));go_round
     case rel=>exact⟨k+1,by omega,by go_num,tG _ s k hlt hw.out (by rw[HC.out];simp)⟩
     case measure=>simp[intOf];omega
   ·go_wp2_with (first | (go_at_call 118;refine(jV s k hlt _ hs).mono ?_;rintro e w' ⟨rfl,rfl⟩));go_round
    case rel=>exact⟨k+1,by omega,by go_num,tG _ s k hlt hw.out (by rw[hl];simp)⟩
    case measure=>simp[intOf];omega
  ·go_wp2_with (go_at_call 118;refine(rK s _ hs).mono ?_;rintro e w' ⟨rfl,rfl⟩);go_ret;exact⟨af (DL _ s k hlt hw.out).symm,rfl⟩
theorem nG (s:BA)(w:World)(hs:s.size<=9223372036854775807):Calls Tryz.prog 42 #[.string s] w fun e w'=>e=.returned (.bool (fg (bl s)))/\w=w':=by
 have hb:=ah s;have HB:=ae hb;clear hb;by_cases h2:2<=s.size
 ·by_cases h3:s.size<=64
  ·go_in;go_wp2_with (go_at_call 81;refine(xI s _ _ hs).mono ?_;rintro e w' ⟨rfl,rfl⟩);go_ret;exact⟨af (by unfold fg;rw[HB.out,dT h2,dT h3];simp[bl]),rfl⟩
  ·go_in;go_wp2;go_ret;exact⟨af (by unfold fg;rw[HB.out,dF h3];simp),rfl⟩
 ·go_in;go_wp2;go_ret;exact⟨af (by unfold fg;rw[HB.out,dF h2];simp),rfl⟩
theorem gC (p:UInt8->Bool)(l:LU):aE p l<=l.length:=by
 unfold aE;exact(List.takeWhile_sublist p).length_le
theorem Ow (p:UInt8->Bool)(l:LU):decide (aE p l=l.length)=l.all p:=by
 rw[bI];constructor
 ·intro h;have h:=dO h;have:=(List.takeWhile_sublist p (l:=l)).eq_of_length h;rw[<-this];simp
 ·intro h;unfold aE;rw[kU _ h];simp
theorem AX (p:UInt8->Bool)(s:BA):(((aE p (bl s):Nat):Int)==(s.size:Int))=(bl s).all p:=by
 rw[<-Ow,ah,bI];simp;omega
theorem mI (s:BA)(j:Nat)(c:UInt8)(h:j<s.size):((s.data[j]!).toNat:Int)=c.toNat↔(bl s)[j]?=some c:=by
 rw[dQ s j h];have e:s.data[j]! = s[j]:=getElem!_pos s.data j h;rw[e];constructor
 ·intro hh;congr 1;apply UInt8.toNat_inj.1;omega
 ·intro hh;injection hh with hh;rw[hh]
theorem zj (s:BA)(j:Nat)(h:¬ j<s.size):(bl s)[j]?=none:=by
 apply List.getElem?_eq_none;rw[ah];omega
theorem AY (s:BA)(c:UInt8)(h:dD c (bl s)=none):Lib.lastIndexByte s c.toNat=-1:=by
 rcases Lib.lastIndexByte_spec s c.toNat with⟨e,_⟩ | ⟨i,hi,e,hc,hn⟩
 ·exact e
 ·have:=oJ c (bl s) i ((mI s i c hi).1 hc) (fun j hj hh=>by
   by_cases hjs:j<s.size
   ·exact hn j hj hjs ((mI s j c hjs).2 hh)
   ·rw[zj s j hjs] at hh;cases hh)
  rw[this] at h;cases h
theorem AZ (s:BA)(c:UInt8)(i:Nat)(h:dD c (bl s)=some i):Lib.lastIndexByte s c.toNat=i:=by
 rcases Lib.lastIndexByte_spec s c.toNat with⟨e,hn⟩ | ⟨k,hk,e,hc,hn⟩
 ·have:=tH c (bl s) (fun j hh=>by
   by_cases hjs:j<s.size
   ·exact hn j hjs ((mI s j c hjs).2 hh)
   ·rw[zj s j hjs] at hh;cases hh)
  rw[this] at h;cases h
 ·have:=oJ c (bl s) k ((mI s k c hk).1 hc) (fun j hj hh=>by
   by_cases hjs:j<s.size
   ·exact hn j hj hjs ((mI s j c hjs).2 hh)
   ·rw[zj s j hjs] at hh;cases hh)
  rw[this] at h;injection h with h;rw[e,h]
theorem wM (c:UInt8)(a:Addr)(o:BA)(w:World)(ha:w.cell? a=some (.string o)):Calls Tryz.prog 199 #[.int .u8 c.toNat,.pointer (some a)] w fun e w'=>e=.returned (.bool (ll c||cN c||(bl o).contains c))/\w=w':=by
 cases h1:ll c
 ·cases h2:cN c
  ·cases h3:(bl o).contains c
   ·have hn:=gB o c h3;have H3:=ae h3;clear h3;go_in;go_wp2_with (first | (go_at_call 200;refine(gX _ _).mono ?_;rintro e w' ⟨rfl,rfl⟩) | (go_at_call 163;refine(dz _ _).mono ?_;rintro e w' ⟨rfl,rfl⟩) | (go_at_call 119;refine(aU _ _ _).mono ?_;rintro e w' ⟨rfl,rfl⟩));go_ret;exact⟨af dF,rfl⟩
   ·have hn:=gW o c h3;have H3:=ae h3;clear h3;go_in;go_wp2_with (first | (go_at_call 200;refine(gX _ _).mono ?_;rintro e w' ⟨rfl,rfl⟩) | (go_at_call 163;refine(dz _ _).mono ?_;rintro e w' ⟨rfl,rfl⟩) | (go_at_call 119;refine(aU _ _ _).mono ?_;rintro e w' ⟨rfl,rfl⟩));go_ret;exact⟨af rfl,rfl⟩
  ·go_in;go_wp2_with (first | (go_at_call 200;refine(gX _ _).mono ?_;rintro e w' ⟨rfl,rfl⟩) | (go_at_call 163;refine(dz _ _).mono ?_;rintro e w' ⟨rfl,rfl⟩));go_ret;exact⟨rfl,rfl⟩
 ·go_in;go_wp2_with (first | (go_at_call 200;refine(gX _ _).mono ?_;rintro e w' ⟨rfl,rfl⟩));go_ret;exact⟨rfl,rfl⟩
theorem Iq (s o:BA)(a:Addr)(w:World)(ha:w.cell? a=some (.string o))(hs:s.size<=9223372036854775807):Calls Tryz.prog 166 #[.string s,.func (.func 199) #[] #[.pointer (some a)]] w fun e w'=>e=.returned (.int .i64 (aE (RQ (bl o)) (bl s)))/\w=w':=
 zi _ _ _ s w hs Tryz.call199 (ae fun c=>wM c a o w ha)
theorem zk (s o:BA)(w:World)(hs:s.size<=9223372036854775807):Calls Tryz.prog 162 #[.string s,.string o] w fun e w'=>e=.returned (.bool (bN (bl o) (bl s)))/\Below w.heap.size w w':=by
 by_cases h0:s.size=0
 ·have he:s.toList=[]:=by rw[aj,bX s h0]
  go_in;go_wp2;go_ret;exact⟨af (by rw[bX s h0];rfl),bR.alloc lr _⟩
 ·have he:s.toList.isEmpty=false:=by rw[aj,bj];simpa using h0
  have he':¬ s.toList=[]:=by intro h;rw[h] at he;simp at he
  go_in;go_wp2_with (go_at_call 166;refine(Iq _ _ _ _ (by simp;rfl) hs).mono ?_;rintro e w' ⟨rfl,rfl⟩);go_ret;refine⟨af ?_,bR.alloc lr _⟩;rw[AX];unfold bN;rw[bj,dF h0];rfl
theorem tP (s:BA)(w:World)(hs:s.size<=9223372036854775807):Calls Tryz.prog 161 #[.string s] w fun e w'=>e=.returned (.bool (lV (bl s)))/\w=w':=by
 by_cases h0:s.size=0
 ·have he:s.toList=[]:=by rw[aj,bX s h0]
  go_in;go_wp2;go_ret;exact⟨af (by rw[bX s h0];rfl),rfl⟩
 ·have he:s.toList.isEmpty=false:=by rw[aj,bj];simpa using h0
  have he':¬ s.toList=[]:=by intro h;rw[h] at he;simp at he
  go_in;go_wp2_with (go_at_call 166;refine(xK _ _ hs).mono ?_;rintro e w' ⟨rfl,rfl⟩);go_ret;refine⟨af ?_,rfl⟩;rw[AX];unfold lV;rw[bj,dF h0];rfl
theorem dG (s:BA)(c:UInt8)(w:World)(hs:s.size<=9223372036)(h:Hid (dD c (bl s)=none)):Calls Tryz.prog 131 #[.string s,.int .u8 c.toNat] w fun e w'=>e=.returned (.int .i64 (-1))/\w=w':=
 (Tryz.strings_LastIndexByte s c.toNat (by omega) w).mono fun _ _ ⟨he,hw⟩=>⟨by rw[he,AY s c h.out],hw.symm⟩
theorem bW (s:BA)(c:UInt8)(i:Nat)(w:World)(hs:s.size<=9223372036)(h:Hid (dD c (bl s)=some i)):Calls Tryz.prog 131 #[.string s,.int .u8 c.toNat] w fun e w'=>e=.returned (.int .i64 i)/\w=w':=
 (Tryz.strings_LastIndexByte s c.toNat (by omega) w).mono fun _ _ ⟨he,hw⟩=>⟨by rw[he,AZ s c i h.out],hw.symm⟩
theorem bV (s sep:BA)(w:World)(hG:Gl w)(hs:s.size<=4294967280):Calls Tryz.prog 160 #[.string s,.string sep] w fun e w'=>e=.returned (.tuple #[.string (ir s sep),.string (lY s sep),.bool (zc s sep)])/\Below w.heap.size w w':=by
 obtain⟨m,hm⟩:=hG.ml;exact(Tryz.strings_Cut s sep m w (by omega) hm).mono fun _ _ ⟨he,n,hw⟩=>⟨he,by rw[hw];exact am bR n⟩
theorem aJ {fn:Func}{t u v x:Tmp}(h:fn.results=#[.tmp t,.tmp u,.tmp v,.tmp x])(tmps:Array Value)(P:Program)(w:World):
  (results fn tmps).run P w=.ok (.tuple #[tmps.getD t undef,tmps.getD u undef,tmps.getD v undef,tmps.getD x undef]) w:=by simp[results,h]
def cn (r:Option (LU×LU×LU))(w:World)(e:Ending)(w':World):Prop:=
 ∃ (ep pr rv:BA) (ok:Bool),e=.returned (.tuple #[.string ep,.string pr,.string rv,.bool ok])/\r=(if ok=true then some (bl ep,bl pr,bl rv) else none)/\ep.size<=64/\pr.size<=64/\rv.size<=64/\Below w.heap.size w w'
theorem cn.no {r:Option (LU×LU×LU)}{w w':World}(h:r=none)(hb:Below w.heap.size w w'):cn r w (.returned (.tuple #[.string ⟨#[]⟩,.string ⟨#[]⟩,.string ⟨#[]⟩,.bool false])) w':=
 ⟨_,_,_,_,rfl,h,by decide,by decide,by decide,hb⟩
theorem Bg (l:LU)(h:(Lib.cut l [58]).2.2=false):lX l=some ([],l):=by simp[lX,h]
theorem Ix (l:LU)(h:(Lib.cut l [58]).2.2=true)(h1:lV (Lib.cut l [58]).1=true)(h2:(Lib.cut l [58]).1.length<=9):lX l=some ((Lib.cut l [58]).1,(Lib.cut l [58]).2.1):=by simp[lX,h,h1,h2]
theorem zq (l:LU)(h:(Lib.cut l [58]).2.2=true)(h1:¬ (lV (Lib.cut l [58]).1=true/\(Lib.cut l [58]).1.length<=9)):lX l=none:=by simp[lX,h,h1]
theorem iX (ep p:LU)(h:dD 45 p=none)(h1:bN [46,43,126,45] p=false\/lW p=false):(mF p).map (fun r=>(ep,r.1,r.2))=none:=by
 unfold mF;rw[h];rcases h1 with h1 | h1<;>simp[h1]
theorem mJ (ep p:LU)(h:dD 45 p=none)(h1:bN [46,43,126,45] p=true)(h2:lW p=true):(mF p).map (fun r=>(ep,r.1,r.2))=some (ep,p,[]):=by
 unfold mF;rw[h];simp[h1,h2]
theorem eX (ep p:LU)(i:Nat)(h:dD 45 p=some i)(h1:bN [46,43,126] (p.drop (i+1))=false\/bN [46,43,126,45] (p.take i)=false\/lW (p.take i)=false):(mF p).map (fun r=>(ep,r.1,r.2))=none:=by
 unfold mF;rw[h];rcases h1 with h1 | h1 | h1<;>simp[h1]
theorem mK (ep p:LU)(i:Nat)(h:dD 45 p=some i)(h0:bN [46,43,126] (p.drop (i+1))=true)(h1:bN [46,43,126,45] (p.take i)=true)(h2:lW (p.take i)=true):(mF p).map (fun r=>(ep,r.1,r.2))=some (ep,p.take i,p.drop (i+1)):=by
 unfold mF;rw[h];simp[h0,h1,h2]
theorem aF (s o:BA)(b:Bool)(w:World)(hs:s.size<=9223372036854775807)(h:Hid (bN (bl o) (bl s)=b)):Calls Tryz.prog 162 #[.string s,.string o] w fun e w'=>e=.returned (.bool b)/\Below w.heap.size w w':=by
 rw[<-h.out];exact zk s o w hs
theorem aR (s:BA)(b:Bool)(w:World)(hs:s.size<=9223372036854775807)(h:Hid (lV (bl s)=b)):Calls Tryz.prog 161 #[.string s] w fun e w'=>e=.returned (.bool b)/\w=w':=by
 rw[<-h.out];exact tP s w hs
theorem oL (s:BA)(w:World)(hG:Gl w)(hs:s.size<=64)(hk:zc s ⟨#[58]⟩=false):Calls Tryz.prog 120 #[.string s] w (cn (jl (bl s)) w):=by
 have HG:=ae hG;clear hG;have HE:Hid (jl (bl s)=(mF (bl s)).map fun r=>([],r.1,r.2)):=by
  show _=_;unfold jl;rw[Bg (bl s) hk]
 cases hl:dD 45 (bl s) with
 | none=>
  have HL:=ae hl;clear hl;cases hm:bN [46,43,126,45] (bl s)
  ·have HM:=ae hm;clear hm;go_in;go_wp2_with fail;refine(bV s _ _ HG.out (by omega)).mono ?_;rintro e w1 ⟨rfl,hb1⟩;go_wp2_with fail;refine(dG s 45 _ (by omega) HL).mono ?_;rintro e w2 ⟨rfl,rfl⟩;go_wp2_with fail;refine(aF _ _ false _ (by omega) (by exact HM)).mono ?_;rintro e w2 ⟨rfl,hb2⟩;go_wp2_with fail;refine bodyPost_ret (aJ rfl _ _ _) rfl ?_;exact⟨⟨#[]⟩,s,⟨#[]⟩,false,rfl,by rw[HE.out,iX _ _ HL.out (.inl HM.out)];rfl,by decide,by omega,by decide,aq hb1 hb2⟩
  ·have HM:=ae hm;have hp:=nD _ _ hm;clear hm;go_in;go_wp2_with fail;refine(bV s _ _ HG.out (by omega)).mono ?_;rintro e w1 ⟨rfl,hb1⟩;go_wp2_with fail;refine(dG s 45 _ (by omega) HL).mono ?_;rintro e w2 ⟨rfl,rfl⟩;go_wp2_with fail;refine(aF _ _ true _ (by omega) (by exact HM)).mono ?_;rintro e w2 ⟨rfl,hb2⟩;go_wp2_with fail;refine(dz s[0] _).mono ?_;rintro e w3 ⟨rfl,rfl⟩;go_wp2_with fail;refine bodyPost_ret (aJ rfl _ _ _) rfl ?_;refine⟨⟨#[]⟩,s,⟨#[]⟩,cN s[0],rfl,?_,by decide,by omega,by decide,aq hb1 hb2⟩;rw[HE.out];cases hd:cN s[0]
   ·rw[iX _ _ HL.out (.inr (by rw[eI _ hp];exact hd))];rfl
   ·rw[mJ _ _ HL.out HM.out (by rw[eI _ hp];exact hd)];rfl
 | some i=>
  have hi:=pp _ _ _ hl;rw[ah] at hi;have HL:=ae hl;clear hl;have hz1:(s.extract (i+1) s.size).size<=64:=by rw[ByteArray.size_extract];omega
  have hz2:(s.extract 0 i).size<=64:=by rw[ByteArray.size_extract];omega
  cases hr:bN [46,43,126] ((bl s).drop (i+1))
  ·have HR:Hid (bN [46,43,126] (bl (s.extract (i+1) s.size))=false):=by show _=_;rw[cO];exact hr
   have HR':=ae hr;clear hr;go_in;go_wp2_with fail;refine(bV s _ _ HG.out (by omega)).mono ?_;rintro e w1 ⟨rfl,hb1⟩;go_wp2_with fail;refine(bW s 45 i _ (by omega) HL).mono ?_;rintro e w2 ⟨rfl,rfl⟩;go_wp2;go_region;go_wp2_with fail;refine(aF (s.extract (i+1) s.size) ⟨#[46,43,126]⟩ false _ (by omega) (by exact HR)).mono ?_;rintro e w2 ⟨rfl,hb2⟩;go_wp2_with fail;refine bodyPost_ret (aJ rfl _ _ _) rfl ?_;exact cn.no (by rw[HE.out,eX _ _ i HL.out (.inl HR'.out)]) (aq hb1.drew hb2)
  ·have HR:Hid (bN [46,43,126] (bl (s.extract (i+1) s.size))=true):=by show _=_;rw[cO];exact hr
   have HR':=ae hr;clear hr;cases hm:bN [46,43,126,45] ((bl s).take i)
   ·have HM:Hid (bN [46,43,126,45] (bl (s.extract 0 i))=false):=by show _=_;rw[ek];exact hm
    have HM':=ae hm;clear hm;go_in;go_wp2_with fail;refine(bV s _ _ HG.out (by omega)).mono ?_;rintro e w1 ⟨rfl,hb1⟩;go_wp2_with fail;refine(bW s 45 i _ (by omega) HL).mono ?_;rintro e w2 ⟨rfl,rfl⟩;go_wp2;go_region;go_wp2_with fail;refine(aF (s.extract (i+1) s.size) ⟨#[46,43,126]⟩ true _ (by omega) (by exact HR)).mono ?_;rintro e w2 ⟨rfl,hb2⟩;go_wp2_with fail;refine(aF (s.extract 0 i) ⟨#[46,43,126,45]⟩ false _ (by omega) (by exact HM)).mono ?_;rintro e w3 ⟨rfl,hb3⟩;go_wp2_with fail;refine bodyPost_ret (aJ rfl _ _ _) rfl ?_;exact⟨⟨#[]⟩,s.extract 0 i,s.extract (i+1) s.size,false,rfl,by rw[HE.out,eX _ _ i HL.out (.inr (.inl HM'.out))];rfl,by decide,hz2,hz1,aq (aq hb1.drew hb2) hb3⟩
   ·have HM:Hid (bN [46,43,126,45] (bl (s.extract 0 i))=true):=by show _=_;rw[ek];exact hm
    have hp:=nD _ (s.extract 0 i) HM.out;have hp':0<min i s.size:=by rw[ByteArray.size_extract] at hp;omega
    have HM':=ae hm;clear hm;go_in;go_wp2_with fail;refine(bV s _ _ HG.out (by omega)).mono ?_;rintro e w1 ⟨rfl,hb1⟩;go_wp2_with fail;refine(bW s 45 i _ (by omega) HL).mono ?_;rintro e w2 ⟨rfl,rfl⟩;go_wp2;go_region;go_wp2_with fail;refine(aF (s.extract (i+1) s.size) ⟨#[46,43,126]⟩ true _ (by omega) (by exact HR)).mono ?_;rintro e w2 ⟨rfl,hb2⟩;go_wp2_with fail;refine(aF (s.extract 0 i) ⟨#[46,43,126,45]⟩ true _ (by omega) (by exact HM)).mono ?_;rintro e w3 ⟨rfl,hb3⟩;go_wp2_with fail;refine(dz (s.extract 0 i)[0] _).mono ?_;rintro e w4 ⟨rfl,rfl⟩;go_wp2_with fail;refine bodyPost_ret (aJ rfl _ _ _) rfl ?_;refine⟨⟨#[]⟩,s.extract 0 i,s.extract (i+1) s.size,cN (s.extract 0 i)[0],rfl,?_,by decide,hz2,hz1,aq (aq hb1.drew hb2) hb3⟩;rw[HE.out];cases hd:cN (s.extract 0 i)[0]
    ·rw[eX _ _ i HL.out (.inr (.inr (by rw[<-ek,eI _ hp];exact hd)))];rfl
    ·rw[mK _ _ i HL.out HR'.out HM'.out (by rw[<-ek,eI _ hp];exact hd),if_pos rfl,ek,cO];rfl
theorem oM (s t u:BA)(w:World)(hG:Gl w)(hs:s.size<=64)(hk:zc s ⟨#[58]⟩=true)(ht:t=lY s ⟨#[58]⟩)(hu:u=ir s ⟨#[58]⟩)
  (hn:lV (bl u)=true)(hl:u.size<=9):Calls Tryz.prog 120 #[.string s] w (cn (jl (bl s)) w):=by
 have HG:=ae hG;clear hG;have HE:Hid (jl (bl s)=(mF (bl t)).map fun r=>(bl u,r.1,r.2)):=by
  show _=_;unfold jl;rw[Ix (bl s) hk (by rw[hu,eJ] at hn;exact hn) (by rw[hu,<-ah,eJ] at hl;exact hl),ht,hu,gV,eJ];rfl
 have hts:t.size<=64:=by have:=ti s ⟨#[58]⟩;rw[ht];omega
 have HN:=ae hn;clear hn;have ht':=ht.symm;have hu':=hu.symm;clear ht hu;cases hl:dD 45 (bl t) with
 | none=>
  have HL:=ae hl;clear hl;cases hm:bN [46,43,126,45] (bl t)
  ·have HM:=ae hm;clear hm;go_in;go_wp2_with fail;refine(bV s _ _ HG.out (by omega)).mono ?_;rintro e w1 ⟨rfl,hb1⟩;go_wp2_with fail;refine(aR _ _ _ (by omega) HN).mono ?_;rintro e w1' ⟨rfl,rfl⟩;go_wp2_with fail;refine(dG t 45 _ (by omega) HL).mono ?_;rintro e w2 ⟨rfl,rfl⟩;go_wp2_with fail;refine(aF _ _ false _ (by omega) (by exact HM)).mono ?_;rintro e w2 ⟨rfl,hb2⟩;go_wp2_with fail;refine bodyPost_ret (aJ rfl _ _ _) rfl ?_;exact⟨u,t,⟨#[]⟩,false,rfl,by rw[HE.out,iX _ _ HL.out (.inl HM.out)];rfl,by omega,by omega,by decide,aq hb1 hb2⟩
  ·have HM:=ae hm;have hp:=nD _ _ hm;clear hm;go_in;go_wp2_with fail;refine(bV s _ _ HG.out (by omega)).mono ?_;rintro e w1 ⟨rfl,hb1⟩;go_wp2_with fail;refine(aR _ _ _ (by omega) HN).mono ?_;rintro e w1' ⟨rfl,rfl⟩;go_wp2_with fail;refine(dG t 45 _ (by omega) HL).mono ?_;rintro e w2 ⟨rfl,rfl⟩;go_wp2_with fail;refine(aF _ _ true _ (by omega) (by exact HM)).mono ?_;rintro e w2 ⟨rfl,hb2⟩;go_wp2_with fail;refine(dz t[0] _).mono ?_;rintro e w3 ⟨rfl,rfl⟩;go_wp2_with fail;refine bodyPost_ret (aJ rfl _ _ _) rfl ?_;refine⟨u,t,⟨#[]⟩,cN t[0],rfl,?_,by omega,by omega,by decide,aq hb1 hb2⟩;rw[HE.out];cases hd:cN t[0]
   ·rw[iX _ _ HL.out (.inr (by rw[eI _ hp];exact hd))];rfl
   ·rw[mJ _ _ HL.out HM.out (by rw[eI _ hp];exact hd)];rfl
 | some i=>
  have hi:=pp _ _ _ hl;rw[ah] at hi;have HL:=ae hl;clear hl;have hz1:(t.extract (i+1) t.size).size<=64:=by rw[ByteArray.size_extract];omega
  have hz2:(t.extract 0 i).size<=64:=by rw[ByteArray.size_extract];omega
  cases hr:bN [46,43,126] ((bl t).drop (i+1))
  ·have HR:Hid (bN [46,43,126] (bl (t.extract (i+1) t.size))=false):=by show _=_;rw[cO];exact hr
   have HR':=ae hr;clear hr;go_in;go_wp2_with fail;refine(bV s _ _ HG.out (by omega)).mono ?_;rintro e w1 ⟨rfl,hb1⟩;go_wp2_with fail;refine(aR _ _ _ (by omega) HN).mono ?_;rintro e w1' ⟨rfl,rfl⟩;go_wp2_with fail;refine(bW t 45 i _ (by omega) HL).mono ?_;rintro e w2 ⟨rfl,rfl⟩;go_wp2;go_region;go_wp2_with fail;refine(aF (t.extract (i+1) t.size) ⟨#[46,43,126]⟩ false _ (by omega) (by exact HR)).mono ?_;rintro e w2 ⟨rfl,hb2⟩;go_wp2_with fail;refine bodyPost_ret (aJ rfl _ _ _) rfl ?_;exact cn.no (by rw[HE.out,eX _ _ i HL.out (.inl HR'.out)]) (aq hb1.drew hb2)
  ·have HR:Hid (bN [46,43,126] (bl (t.extract (i+1) t.size))=true):=by show _=_;rw[cO];exact hr
   have HR':=ae hr;clear hr;cases hm:bN [46,43,126,45] ((bl t).take i)
   ·have HM:Hid (bN [46,43,126,45] (bl (t.extract 0 i))=false):=by show _=_;rw[ek];exact hm
    have HM':=ae hm;clear hm;go_in;go_wp2_with fail;refine(bV s _ _ HG.out (by omega)).mono ?_;rintro e w1 ⟨rfl,hb1⟩;go_wp2_with fail;refine(aR _ _ _ (by omega) HN).mono ?_;rintro e w1' ⟨rfl,rfl⟩;go_wp2_with fail;refine(bW t 45 i _ (by omega) HL).mono ?_;rintro e w2 ⟨rfl,rfl⟩;go_wp2;go_region;go_wp2_with fail;refine(aF (t.extract (i+1) t.size) ⟨#[46,43,126]⟩ true _ (by omega) (by exact HR)).mono ?_;rintro e w2 ⟨rfl,hb2⟩;go_wp2_with fail;refine(aF (t.extract 0 i) ⟨#[46,43,126,45]⟩ false _ (by omega) (by exact HM)).mono ?_;rintro e w3 ⟨rfl,hb3⟩;go_wp2_with fail;refine bodyPost_ret (aJ rfl _ _ _) rfl ?_;exact⟨u,t.extract 0 i,t.extract (i+1) t.size,false,rfl,by rw[HE.out,eX _ _ i HL.out (.inr (.inl HM'.out))];rfl,by omega,hz2,hz1,aq (aq hb1.drew hb2) hb3⟩
   ·have HM:Hid (bN [46,43,126,45] (bl (t.extract 0 i))=true):=by show _=_;rw[ek];exact hm
    have hp:=nD _ (t.extract 0 i) HM.out;have hp':0<min i t.size:=by rw[ByteArray.size_extract] at hp;omega
    have HM':=ae hm;clear hm;go_in;go_wp2_with fail;refine(bV s _ _ HG.out (by omega)).mono ?_;rintro e w1 ⟨rfl,hb1⟩;go_wp2_with fail;refine(aR _ _ _ (by omega) HN).mono ?_;rintro e w1' ⟨rfl,rfl⟩;go_wp2_with fail;refine(bW t 45 i _ (by omega) HL).mono ?_;rintro e w2 ⟨rfl,rfl⟩;go_wp2;go_region;go_wp2_with fail;refine(aF (t.extract (i+1) t.size) ⟨#[46,43,126]⟩ true _ (by omega) (by exact HR)).mono ?_;rintro e w2 ⟨rfl,hb2⟩;go_wp2_with fail;refine(aF (t.extract 0 i) ⟨#[46,43,126,45]⟩ true _ (by omega) (by exact HM)).mono ?_;rintro e w3 ⟨rfl,hb3⟩;go_wp2_with fail;refine(dz (t.extract 0 i)[0] _).mono ?_;rintro e w4 ⟨rfl,rfl⟩;go_wp2_with fail;refine bodyPost_ret (aJ rfl _ _ _) rfl ?_;refine⟨u,t.extract 0 i,t.extract (i+1) t.size,cN (t.extract 0 i)[0],rfl,?_,by omega,hz2,hz1,aq (aq hb1.drew hb2) hb3⟩;rw[HE.out];cases hd:cN (t.extract 0 i)[0]
    ·rw[eX _ _ i HL.out (.inr (.inr (by rw[<-ek,eI _ hp];exact hd)))];rfl
    ·rw[mK _ _ i HL.out HR'.out HM'.out (by rw[<-ek,eI _ hp];exact hd),if_pos rfl,ek,cO]
theorem oN (s u:BA)(w:World)(hG:Gl w)(hs:s.size<=64)(hk:zc s ⟨#[58]⟩=true)(hu:u=ir s ⟨#[58]⟩)
  (hn:¬ (lV (bl u)=true/\u.size<=9)):Calls Tryz.prog 120 #[.string s] w (cn (jl (bl s)) w):=by
 have HG:=ae hG;clear hG;have HE:Hid (jl (bl s)=none):=by
  show _=_;unfold jl;rw[zq (bl s) hk (by rw[hu,<-ah,eJ] at hn;exact hn)]
 have hus:u.size<=64:=by have:=th s ⟨#[58]⟩;rw[hu];omega
 have hu':=hu.symm;clear hu;cases hb:lV (bl u)
 ·have HN:=ae hb;clear hb hn;go_in;go_wp2_with fail;refine(bV s _ _ HG.out (by omega)).mono ?_;rintro e w1 ⟨rfl,hb1⟩;go_wp2_with fail;refine(aR _ _ _ (by omega) HN).mono ?_;rintro e w1' ⟨rfl,rfl⟩;go_wp2_with fail;refine bodyPost_ret (aJ rfl _ _ _) rfl ?_;exact cn.no HE.out hb1
 ·have hl:9<u.size:=by rw[hb] at hn;simp at hn;omega
  have HN:=ae hb;clear hb hn;go_in;go_wp2_with fail;refine(bV s _ _ HG.out (by omega)).mono ?_;rintro e w1 ⟨rfl,hb1⟩;go_wp2_with fail;refine(aR _ _ _ (by omega) HN).mono ?_;rintro e w1' ⟨rfl,rfl⟩;go_wp2_with fail;refine bodyPost_ret (aJ rfl _ _ _) rfl ?_;exact cn.no HE.out hb1
theorem pz (s:BA)(w:World)(hG:Gl w)(hs:s.size<=64):Calls Tryz.prog 120 #[.string s] w (cn (jl (bl s)) w):=by
 cases hk:zc s ⟨#[58]⟩
 ·exact oL s w hG hs hk
 ·by_cases hn:lV (bl (ir s ⟨#[58]⟩))=true/\(ir s ⟨#[58]⟩).size<=9
  ·exact oM s _ _ w hG hs hk rfl rfl hn.1 hn.2
  ·exact oN s _ w hG hs hk rfl hn
def pA (r:Option (LU×LU×LU))(w:World)(e:Ending)(w':World):Prop:=
 ∃ (ep pr rv:BA) (c:Int),e=.returned (.tuple #[.string ep,.string pr,.string rv,.int .i64 c])/\(match r with | some (a,b,d)=>c=0/\bl ep=a/\bl pr=b/\bl rv=d | none=>c=3/\ep=⟨#[]⟩/\pr=⟨#[]⟩/\rv=⟨#[]⟩)/\Below w.heap.size w w'
theorem oO (s:BA)(w:World)(hG:Gl w)(hs:s.size<=64):Calls Tryz.prog 82 #[.int .i64 1,.string s] w (pA (jl (bl s)) w):=by
 have HG:=ae hG;clear hG;go_in;go_wp2_with fail;refine(pz s _ HG.out hs).mono ?_;rintro e w1 ⟨ep,pr,rv,ok,rfl,hr,h1,h2,h3,hb1⟩;have HR:=ae hr;clear hr;cases ok
 ·go_wp2_with fail;refine bodyPost_ret (aJ rfl _ _ _) rfl ?_;exact⟨⟨#[]⟩,⟨#[]⟩,⟨#[]⟩,3,rfl,by rw[HR.out];exact⟨rfl,rfl,rfl,rfl⟩,hb1⟩
 ·go_wp2_with fail;refine bodyPost_ret (aJ rfl _ _ _) rfl ?_;exact⟨ep,pr,rv,0,rfl,by rw[HR.out];exact⟨rfl,rfl,rfl,rfl⟩,hb1⟩
theorem tY (s:BA)(c:UInt8)(h:(bl s).contains c=false):wL s c=-1:=by
 have h1:=gB s c h;have h2:=Lib.indexByte_ge (bl s) c;unfold wL at *;omega
theorem zt {T E:TypeId}{sz:Nat}(hT:Tryz.prog.underlying T=some (.slice (Tryz.prog.elem T)))(hE:Tryz.prog.elem T=E)(hs:∀ w,(sizeOf E).run Tryz.prog w=.ok sz w)
  {A:OA}{n c k b off:Nat}{i:Int}(hi:i=k)(hA:A=some ⟨b,off,none⟩)(hk:k<n)(w:World):(Instr.indexAt T (.slice A n c) (.int .i64 i)).run Tryz.prog w=.ok (.pointer (some ⟨b,off+k*sz,none⟩)) w:=by
 subst hi;exact aB hT hE hs hA hk w
def kW (c:UInt8):Bool:=ll c||cN c||c==46||c==95||c==47
def je (c:UInt8):Bool:=kW c||c==43||c==45||c==58||c==64
def dJ (l:LU):Bool:=decide (1<=l.length/\l.length<=64)&&(match l with | c::_=>kW c | []=>false)&&l.all je
theorem lD (p:UInt8->Bool)(h:(List.range 256).all (fun n=>p (UInt8.ofNat n))=true)(c:UInt8):p c=true:=by
 have:=List.all_eq_true.1 h c.toNat (List.mem_range.2 c.toNat_lt);simpa using this
theorem Lw (c:UInt8)(h1:ll c=false)(h2:cN c=false):(bl ⟨#[46,95,43,45,58,47,64]⟩).contains c=je c:=by
 simp only[je,kW,h1,h2,bl];rw[bI];simp
 grind
theorem Lx (c:UInt8)(h:je c=true):(bl ⟨#[45,43,58,64]⟩).contains c=!kW c:=by
 exact lD (fun c=>!je c||((bl ⟨#[45,43,58,64]⟩).contains c == !kW c)) (by kernel_rfl) c |> fun hh=>by simpa [h] using hh
theorem xO (s:BA)(k:Nat)(h:k<s.size)(h1:je s[k]=false):dJ (bl s)=false:=by
 have:(bl s).all je=false:=by
  rw[List.all_eq_false];exact⟨s[k],gM (dQ s k h),by rw[h1];simp⟩
 unfold dJ;rw[this,Bool.and_false]
theorem Eb (s:BA)(k:Nat)(h:¬ k<s.size)(h0:0<s.size)(h64:s.size<=64)(hf:(bl ⟨#[45,43,58,64]⟩).contains s[0]=false)(ha:((bl s).take k).all je=true):dJ (bl s)=true:=by
 rw[tL (by rw[ah];omega)] at ha;have hc:=gU s h0;have h1:je s[0]=true:=by rw[hc,List.all_cons,Bool.and_eq_true] at ha;exact ha.1
 have h2:kW s[0]=true:=by have:=Lx s[0] h1;rw[hf] at this;simpa using this.symm
 unfold dJ;rw[ha,ah,dT ⟨by omega,h64⟩];rw[hc];simp[h2]
theorem Ec (s:BA)(h0:0<s.size)(hf:(bl ⟨#[45,43,58,64]⟩).contains s[0]=true):dJ (bl s)=false:=by
 cases hn:je s[0] with
 | false=>exact xO s 0 h0 hn
 | true=>
  have h2:kW s[0]=false:=by have:=Lx s[0] hn;rw[hf] at this;simpa using this.symm
  unfold dJ;rw[gU s h0];simp[h2]
theorem tZ (s:BA)(h:¬ (1<=s.size/\s.size<=64)):dJ (bl s)=false:=by
 unfold dJ;rw[ah,dF h];rfl
theorem qL (s:BA)(w:World)(hs:s.size<=9223372036854775807):Calls Tryz.prog 130 #[.string s] w fun e w'=>e=.returned (.bool (dJ (bl s)))/\w=w':=by
 by_cases h0:s.size=0
 ·have he:s.toList=[]:=by rw[aj,bX s h0]
  have he2:s.toList.isEmpty=true:=by rw[he];rfl
  have E:Hid (dJ (bl s)=false):=tZ s (by omega);go_in;go_wp2;go_ret;exact⟨af E.out.symm,rfl⟩
 have hp:0<s.size:=by omega
 have he2:s.toList.isEmpty=false:=by rw[aj,bj];exact dF h0
 have he:¬ s.toList=[]:=by intro h;rw[h] at he2;simp at he2
 by_cases h64:64<s.size
 ·have E:Hid (dJ (bl s)=false):=tZ s (by omega);go_in;go_wp2;go_ret;exact⟨af E.out.symm,rfl⟩
 cases hf:(bl ⟨#[45,43,58,64]⟩).contains s[0] with
 | true=>
  have hn:=gW ⟨#[45,43,58,64]⟩ s[0] hf;have E:Hid (dJ (bl s)=false):=Ec s hp hf;clear hf;go_in;go_wp2_with (go_at_call 119;refine(aU _ s[0] _).mono ?_;rintro e w' ⟨rfl,rfl⟩);go_ret;exact⟨af E.out.symm,rfl⟩
 | false=>
  have hn:=gB ⟨#[45,43,58,64]⟩ s[0] hf;have HF:=ae hf;clear hf;go_in;go_wp2_with (go_at_call 119;refine(aU _ s[0] _).mono ?_;rintro e w' ⟨rfl,rfl⟩);go_loop [21] (fun i=>∃ k:Nat,k<=s.size/\i=.int .i64 k/\Hid (((bl s).take k).all je=true)) (fun i=>s.size-(intOf i).toNat)
  case atStart=>exact⟨0,z0,rfl,by simp[Hid]⟩
  case round=>
   obtain⟨k,hk,rfl,HA⟩:=hrel;by_cases hlt:k<s.size
   ·go_upto_region 7 with(fail)
    go_cut [5] (fun v wx=>v=.bool (ll s[k])/\w=wx)
    case first=>
     go_wp2_with fail
     all_goals go_meet
     all_goals (refine⟨?_,rfl⟩;congr 1;rw[bI];simp[ll,jb,Ot];omega)
    case rest=>
    obtain⟨rfl,rfl⟩:=hcut;have IB:=fun W=>aU ⟨#[46,95,43,45,58,47,64]⟩ s[k] W;cases hl:ll s[k] with
    | true=>
     have HN:Hid (je s[k]=true):=by show _=_;simp[je,kW,hl]
     clear hl;go_wp2;go_round
     case rel=>exact⟨k+1,by omega,by go_num,by show _=_;rw[dR s k hlt,HA.out,HN.out];rfl⟩
     case measure=>simp[intOf];omega
    | false=>
     by_cases hd:48<=s[k].toNat/\s[k].toNat<=57
     ·obtain⟨d1,d2⟩:=hd;have HN:Hid (je s[k]=true):=by show _=_;simp[je,kW,cN,d1,d2]
      clear hl;go_wp2;go_round
      case rel=>exact⟨k+1,by omega,by go_num,by show _=_;rw[dR s k hlt,HA.out,HN.out];rfl⟩
      case measure=>simp[intOf];omega
     ·have hdg:cN s[k]=false:=dF hd;have hco:=Lw s[k] hl hdg;cases hn2:je s[k] with
      | true=>
       have hx:=gW ⟨#[46,95,43,45,58,47,64]⟩ s[k] (by rw[hco,hn2]);have HN:=ae hn2;clear hl hco hn2 hdg IB;by_cases d1:s[k].toNat<48
       ·clear hd;go_wp2_with (go_at_call 119;refine(aU _ s[k] _).mono ?_;rintro e w' ⟨rfl,rfl⟩);go_round
        case rel=>exact⟨k+1,by omega,by go_num,by show _=_;rw[dR s k hlt,HA.out,HN.out];rfl⟩
        case measure=>simp[intOf];omega
       ·have d2:57<s[k].toNat:=by omega
        clear hd;go_wp2_with (go_at_call 119;refine(aU _ s[k] _).mono ?_;rintro e w' ⟨rfl,rfl⟩);go_round
        case rel=>exact⟨k+1,by omega,by go_num,by show _=_;rw[dR s k hlt,HA.out,HN.out];rfl⟩
        case measure=>simp[intOf];omega
      | false=>
       have hx:=gB ⟨#[46,95,43,45,58,47,64]⟩ s[k] (by rw[hco,hn2]);have E:Hid (dJ (bl s)=false):=xO s k hlt hn2;clear hl hco hn2 hdg IB;by_cases d1:s[k].toNat<48
       ·clear hd;go_wp2_with (go_at_call 119;refine(aU _ s[k] _).mono ?_;rintro e w' ⟨rfl,rfl⟩);go_ret;exact⟨af E.out.symm,rfl⟩
       ·have d2:57<s[k].toNat:=by omega
        clear hd;go_wp2_with (go_at_call 119;refine(aU _ s[k] _).mono ?_;rintro e w' ⟨rfl,rfl⟩);go_ret;exact⟨af E.out.symm,rfl⟩
   ·go_wp2;go_ret;exact⟨af (Eb s k hlt hp (by omega) HF.out HA.out).symm,rfl⟩
def iY:LU->Bool
 | a::_::_=>a==48
 | _=>false
theorem wU (s:BA)(h:¬ 1<s.size):iY (bl s)=false:=by
 have hl:=ah s;cases hb:bl s with
 | nil=>rfl
 | cons a r=>cases r with
  | nil=>rfl
  | cons b r=>rw[hb] at hl;simp at hl;omega
theorem zw (s:BA)(h:1<s.size):iY (bl s)=(s[0]==48):=by
 have hl:=ah s;have h0:=gU s (by omega);cases hb:(bl s).tail with
 | nil=>rw[h0,hb] at hl;simp at hl;omega
 | cons b r=>rw[h0,hb];rfl
theorem Se (a:UInt8):(((a.toNat:Nat):Int)==48)=(a==48):=by
 rw[bI];simp[<-UInt8.toNat_inj];omega
theorem um (s:BA)(w:World)(hs:s.size<=9223372036854775807):Calls Tryz.prog 164 #[.string s] w fun e w'=>e=.returned (.bool (iY (bl s)))/\w=w':=by
 by_cases h:1<s.size
 ·have h0:0<s.size:=by omega
  have HN:=ae (zw s h);go_in;go_wp2;go_ret;exact⟨af (by rw[HN.out,Se]),rfl⟩
 ·have HN:=ae (wU s h);go_in;go_wp2;go_ret;exact⟨af HN.out.symm,rfl⟩
theorem fv (s:BA)(b:Bool)(w:World)(hs:s.size<=9223372036854775807)(h:Hid (iY (bl s)=b)):Calls Tryz.prog 164 #[.string s] w fun e w'=>e=.returned (.bool b)/\w=w':=by rw[<-h.out];exact um s w hs
def rO:LU:=[46,95,43,126,94]
def zx (l:LU):Option (LU×LU):=
 if (Lib.cut l [58]).2.2=true then (if lV (Lib.cut l [58]).1=true/\(Lib.cut l [58]).1.length<=9/\iY (Lib.cut l [58]).1=false then some ((Lib.cut l [58]).1,(Lib.cut l [58]).2.1) else none) else some ([],l)
def Bk (p:LU):Option (LU×LU):=
 if (bN rO (Lib.cut p [45]).1&&bN rO (Lib.cut p [45]).2.1)=true then some ((Lib.cut p [45]).1,(Lib.cut p [45]).2.1) else none
def jp (l:LU):Option (LU×LU×LU):=
 match zx l with
 | none=>none
 | some (ep,p)=>(Bk p).map fun r=>(ep,r.1,r.2)
theorem lE (ep p:LU)(a b:Bool)(ha:bN rO (Lib.cut p [45]).1=a)(hb:bN rO (Lib.cut p [45]).2.1=b):
  (Bk p).map (fun r=>(ep,r.1,r.2))=if (a&&b)=true then some (ep,(Lib.cut p [45]).1,(Lib.cut p [45]).2.1) else none:=by
 unfold Bk;rw[ha,hb];split<;>rfl
theorem pJ (s:BA)(w:World)(hG:Gl w)(hs:s.size<=64)(hk:zc s ⟨#[58]⟩=false):Calls Tryz.prog 121 #[.string s] w (cn (jp (bl s)) w):=by
 have HG:=ae hG;clear hG;have HE:Hid (jp (bl s)=(Bk (bl s)).map fun r=>([],r.1,r.2)):=by
  show _=_;unfold jp zx;rw[show(Lib.cut (bl s) [58]).2.2=false from hk];rfl
 have z1:=th s ⟨#[45]⟩;have z2:=ti s ⟨#[45]⟩;cases ha:bN rO (bl (ir s ⟨#[45]⟩))
 ·have HA:=ae ha;clear ha;go_in;go_wp2_with fail;refine(bV s ⟨#[58]⟩ _ HG.out (by omega)).mono ?_;rintro e w1 ⟨rfl,hb1⟩;go_wp2_with fail;refine(bV s ⟨#[45]⟩ _ (by exact HG.out.below hb1) (by omega)).mono ?_;rintro e w2 ⟨rfl,hb2⟩;go_wp2_with fail;refine(aF (ir s ⟨#[45]⟩) ⟨#[46,95,43,126,94]⟩ false _ (by omega) (by exact HA)).mono ?_;rintro e w3 ⟨rfl,hb3⟩;go_wp2_with fail;refine bodyPost_ret (aJ rfl _ _ _) rfl ?_;exact⟨⟨#[]⟩,ir s ⟨#[45]⟩,lY s ⟨#[45]⟩,false,rfl,by rw[HE.out,lE _ _ false (bN rO (bl (lY s ⟨#[45]⟩))) (by rw[<-HA.out,eJ];rfl) (by rw[gV];rfl)];rfl,by decide,by omega,by omega,aq (aq hb1 hb2) hb3⟩
 ·have HA:=ae ha;clear ha;cases hb:bN rO (bl (lY s ⟨#[45]⟩))
  ·have HV:=ae hb;clear hb;go_in;go_wp2_with fail;refine(bV s ⟨#[58]⟩ _ HG.out (by omega)).mono ?_;rintro e w1 ⟨rfl,hb1⟩;go_wp2_with fail;refine(bV s ⟨#[45]⟩ _ (by exact HG.out.below hb1) (by omega)).mono ?_;rintro e w2 ⟨rfl,hb2⟩;go_wp2_with fail;refine(aF (ir s ⟨#[45]⟩) ⟨#[46,95,43,126,94]⟩ true _ (by omega) (by exact HA)).mono ?_;rintro e w3 ⟨rfl,hb3⟩;go_wp2_with fail;refine(aF (lY s ⟨#[45]⟩) ⟨#[46,95,43,126,94]⟩ false _ (by omega) (by exact HV)).mono ?_;rintro e w4 ⟨rfl,hb4⟩;go_wp2_with fail;refine bodyPost_ret (aJ rfl _ _ _) rfl ?_;exact⟨⟨#[]⟩,ir s ⟨#[45]⟩,lY s ⟨#[45]⟩,false,rfl,by rw[HE.out,lE _ _ true false (by rw[<-HA.out,eJ];rfl) (by rw[<-HV.out,gV];rfl)];rfl,by decide,by omega,by omega,aq (aq (aq hb1 hb2) hb3) hb4⟩
  ·have HV:=ae hb;clear hb;go_in;go_wp2_with fail;refine(bV s ⟨#[58]⟩ _ HG.out (by omega)).mono ?_;rintro e w1 ⟨rfl,hb1⟩;go_wp2_with fail;refine(bV s ⟨#[45]⟩ _ (by exact HG.out.below hb1) (by omega)).mono ?_;rintro e w2 ⟨rfl,hb2⟩;go_wp2_with fail;refine(aF (ir s ⟨#[45]⟩) ⟨#[46,95,43,126,94]⟩ true _ (by omega) (by exact HA)).mono ?_;rintro e w3 ⟨rfl,hb3⟩;go_wp2_with fail;refine(aF (lY s ⟨#[45]⟩) ⟨#[46,95,43,126,94]⟩ true _ (by omega) (by exact HV)).mono ?_;rintro e w4 ⟨rfl,hb4⟩;go_wp2_with fail;refine bodyPost_ret (aJ rfl _ _ _) rfl ?_;exact⟨⟨#[]⟩,ir s ⟨#[45]⟩,lY s ⟨#[45]⟩,true,rfl,by rw[HE.out,lE _ _ true true (by rw[<-HA.out,eJ];rfl) (by rw[<-HV.out,gV];rfl)];simp only[Bool.and_self,if_true,eJ,gV];rfl,by decide,by omega,by omega,aq (aq (aq hb1 hb2) hb3) hb4⟩
theorem pK (s t u:BA)(w:World)(hG:Gl w)(hs:s.size<=64)(hk:zc s ⟨#[58]⟩=true)(ht:t=lY s ⟨#[58]⟩)(hu:u=ir s ⟨#[58]⟩)
  (hn:lV (bl u)=true)(hl:u.size<=9)(ho:iY (bl u)=false):Calls Tryz.prog 121 #[.string s] w (cn (jp (bl s)) w):=by
 have HG:=ae hG;clear hG;have HE:Hid (jp (bl s)=(Bk (bl t)).map fun r=>(bl u,r.1,r.2)):=by
  show _=_;unfold jp zx;have e1:bl u=(Lib.cut (bl s) [58]).1:=by rw[hu,eJ];rfl
  have e2:bl t=(Lib.cut (bl s) [58]).2.1:=by rw[ht,gV];rfl
  rw[show(Lib.cut (bl s) [58]).2.2=true from hk,if_pos rfl,<-e1,<-e2,if_pos ⟨hn,by rw[ah];exact hl,ho⟩]
 have hts:t.size<=64:=by have:=ti s ⟨#[58]⟩;rw[ht];omega
 have HN:=ae hn;have HO:=ae ho;clear hn ho;have ht':=ht.symm;have hu':=hu.symm;clear ht hu;have z1:=th t ⟨#[45]⟩;have z2:=ti t ⟨#[45]⟩;cases ha:bN rO (bl (ir t ⟨#[45]⟩))
 ·have HA:=ae ha;clear ha;go_in;go_wp2_with fail;refine(bV s ⟨#[58]⟩ _ HG.out (by omega)).mono ?_;rintro e w1 ⟨rfl,hb1⟩;go_wp2_with fail;refine(aR _ _ _ (by omega) HN).mono ?_;rintro e w1' ⟨rfl,rfl⟩;go_wp2_with fail;refine(fv _ _ _ (by omega) HO).mono ?_;rintro e w1' ⟨rfl,rfl⟩;go_wp2_with fail;refine(bV t ⟨#[45]⟩ _ (by exact HG.out.below hb1) (by omega)).mono ?_;rintro e w2 ⟨rfl,hb2⟩;go_wp2_with fail;refine(aF (ir t ⟨#[45]⟩) ⟨#[46,95,43,126,94]⟩ false _ (by omega) (by exact HA)).mono ?_;rintro e w3 ⟨rfl,hb3⟩;go_wp2_with fail;refine bodyPost_ret (aJ rfl _ _ _) rfl ?_;exact⟨u,ir t ⟨#[45]⟩,lY t ⟨#[45]⟩,false,rfl,by rw[HE.out,lE _ _ false (bN rO (bl (lY t ⟨#[45]⟩))) (by rw[<-HA.out,eJ];rfl) (by rw[gV];rfl)];rfl,by omega,by omega,by omega,aq (aq hb1 hb2) hb3⟩
 ·have HA:=ae ha;clear ha;cases hb:bN rO (bl (lY t ⟨#[45]⟩))
  ·have HV:=ae hb;clear hb;go_in;go_wp2_with fail;refine(bV s ⟨#[58]⟩ _ HG.out (by omega)).mono ?_;rintro e w1 ⟨rfl,hb1⟩;go_wp2_with fail;refine(aR _ _ _ (by omega) HN).mono ?_;rintro e w1' ⟨rfl,rfl⟩;go_wp2_with fail;refine(fv _ _ _ (by omega) HO).mono ?_;rintro e w1' ⟨rfl,rfl⟩;go_wp2_with fail;refine(bV t ⟨#[45]⟩ _ (by exact HG.out.below hb1) (by omega)).mono ?_;rintro e w2 ⟨rfl,hb2⟩;go_wp2_with fail;refine(aF (ir t ⟨#[45]⟩) ⟨#[46,95,43,126,94]⟩ true _ (by omega) (by exact HA)).mono ?_;rintro e w3 ⟨rfl,hb3⟩;go_wp2_with fail;refine(aF (lY t ⟨#[45]⟩) ⟨#[46,95,43,126,94]⟩ false _ (by omega) (by exact HV)).mono ?_;rintro e w4 ⟨rfl,hb4⟩;go_wp2_with fail;refine bodyPost_ret (aJ rfl _ _ _) rfl ?_;exact⟨u,ir t ⟨#[45]⟩,lY t ⟨#[45]⟩,false,rfl,by rw[HE.out,lE _ _ true false (by rw[<-HA.out,eJ];rfl) (by rw[<-HV.out,gV];rfl)];rfl,by omega,by omega,by omega,aq (aq (aq hb1 hb2) hb3) hb4⟩
  ·have HV:=ae hb;clear hb;go_in;go_wp2_with fail;refine(bV s ⟨#[58]⟩ _ HG.out (by omega)).mono ?_;rintro e w1 ⟨rfl,hb1⟩;go_wp2_with fail;refine(aR _ _ _ (by omega) HN).mono ?_;rintro e w1' ⟨rfl,rfl⟩;go_wp2_with fail;refine(fv _ _ _ (by omega) HO).mono ?_;rintro e w1' ⟨rfl,rfl⟩;go_wp2_with fail;refine(bV t ⟨#[45]⟩ _ (by exact HG.out.below hb1) (by omega)).mono ?_;rintro e w2 ⟨rfl,hb2⟩;go_wp2_with fail;refine(aF (ir t ⟨#[45]⟩) ⟨#[46,95,43,126,94]⟩ true _ (by omega) (by exact HA)).mono ?_;rintro e w3 ⟨rfl,hb3⟩;go_wp2_with fail;refine(aF (lY t ⟨#[45]⟩) ⟨#[46,95,43,126,94]⟩ true _ (by omega) (by exact HV)).mono ?_;rintro e w4 ⟨rfl,hb4⟩;go_wp2_with fail;refine bodyPost_ret (aJ rfl _ _ _) rfl ?_;exact⟨u,ir t ⟨#[45]⟩,lY t ⟨#[45]⟩,true,rfl,by rw[HE.out,lE _ _ true true (by rw[<-HA.out,eJ];rfl) (by rw[<-HV.out,gV];rfl)];simp only[Bool.and_self,if_true,eJ,gV];rfl,by omega,by omega,by omega,aq (aq (aq hb1 hb2) hb3) hb4⟩
theorem pL (s u:BA)(w:World)(hG:Gl w)(hs:s.size<=64)(hk:zc s ⟨#[58]⟩=true)(hu:u=ir s ⟨#[58]⟩)
  (hn:¬ (lV (bl u)=true/\u.size<=9/\iY (bl u)=false)):Calls Tryz.prog 121 #[.string s] w (cn (jp (bl s)) w):=by
 have HG:=ae hG;clear hG;have HE:Hid (jp (bl s)=none):=by
  show _=_;unfold jp zx;have e1:bl u=(Lib.cut (bl s) [58]).1:=by rw[hu,eJ];rfl
  rw[show(Lib.cut (bl s) [58]).2.2=true from hk,if_pos rfl,<-e1,if_neg (by rw[ah];exact hn)]
 have hus:u.size<=64:=by have:=th s ⟨#[58]⟩;rw[hu];omega
 have hu':=hu.symm;clear hu;cases hb:lV (bl u)
 ·have HN:=ae hb;clear hb hn;go_in;go_wp2_with fail;refine(bV s ⟨#[58]⟩ _ HG.out (by omega)).mono ?_;rintro e w1 ⟨rfl,hb1⟩;go_wp2_with fail;refine(aR _ _ _ (by omega) HN).mono ?_;rintro e w1' ⟨rfl,rfl⟩;go_wp2_with fail;refine bodyPost_ret (aJ rfl _ _ _) rfl ?_;exact cn.no HE.out hb1
 ·by_cases hl:u.size<=9
  ·have ho:iY (bl u)=true:=by cases h:iY (bl u) with | true=>rfl | false=>exact absurd ⟨hb,hl,h⟩ hn
   have HN:=ae hb;have HO:=ae ho;clear hb hn ho;go_in;go_wp2_with fail;refine(bV s ⟨#[58]⟩ _ HG.out (by omega)).mono ?_;rintro e w1 ⟨rfl,hb1⟩;go_wp2_with fail;refine(aR _ _ _ (by omega) HN).mono ?_;rintro e w1' ⟨rfl,rfl⟩;go_wp2_with fail;refine(fv _ _ _ (by omega) HO).mono ?_;rintro e w1' ⟨rfl,rfl⟩;go_wp2_with fail;refine bodyPost_ret (aJ rfl _ _ _) rfl ?_;exact cn.no HE.out hb1
  ·have HN:=ae hb;clear hb hn;go_in;go_wp2_with fail;refine(bV s ⟨#[58]⟩ _ HG.out (by omega)).mono ?_;rintro e w1 ⟨rfl,hb1⟩;go_wp2_with fail;refine(aR _ _ _ (by omega) HN).mono ?_;rintro e w1' ⟨rfl,rfl⟩;go_wp2_with fail;refine bodyPost_ret (aJ rfl _ _ _) rfl ?_;exact cn.no HE.out hb1
theorem qN (s:BA)(w:World)(hG:Gl w)(hs:s.size<=64):Calls Tryz.prog 121 #[.string s] w (cn (jp (bl s)) w):=by
 cases hk:zc s ⟨#[58]⟩
 ·exact pJ s w hG hs hk
 ·by_cases hn:lV (bl (ir s ⟨#[58]⟩))=true/\(ir s ⟨#[58]⟩).size<=9/\iY (bl (ir s ⟨#[58]⟩))=false
  ·exact pK s _ _ w hG hs hk rfl rfl hn.1 hn.2.1 hn.2.2
  ·exact pL s _ w hG hs hk rfl hn
theorem pM (s:BA)(w:World)(hG:Gl w)(hs:s.size<=64):Calls Tryz.prog 82 #[.int .i64 2,.string s] w (pA (jp (bl s)) w):=by
 have HG:=ae hG;clear hG;go_in;go_wp2_with fail;refine(qN s _ HG.out hs).mono ?_;rintro e w1 ⟨ep,pr,rv,ok,rfl,hr,h1,h2,h3,hb1⟩;have HR:=ae hr;clear hr;cases ok
 ·go_wp2_with fail;refine bodyPost_ret (aJ rfl _ _ _) rfl ?_;exact⟨⟨#[]⟩,⟨#[]⟩,⟨#[]⟩,3,rfl,by rw[HR.out];exact⟨rfl,rfl,rfl,rfl⟩,hb1⟩
 ·go_wp2_with fail;refine bodyPost_ret (aJ rfl _ _ _) rfl ?_;exact⟨ep,pr,rv,0,rfl,by rw[HR.out];exact⟨rfl,rfl,rfl,rfl⟩,hb1⟩
theorem SC {a:Nat}{b:Int}(h:(a:Int)≠b):((a:Int) != b)=true:=by simp[bne,h]
def Si:LU->Bool
 | c::_=>kW c
 | []=>false
theorem IT (l:LU):dJ l=(decide (1<=l.length/\l.length<=64)&&Si l&&l.all je):=by cases l<;>rfl
def fi (c:UInt8):Bool:=ll c||cN c||c==46||c==95||c==43||c==45||c==47||c==58
def qQ (c:UInt8):Bool:=ll c||cN c||c==47
def uw:LU->Bool
 | c::_=>qQ c
 | []=>false
def cY (o:Option Nat)(c:UInt8):Option Nat:=match o with
 | none=>none
 | some n=>if c==40 then some (n+1) else if c==41 then (if n=0 then none else some (n-1)) else if fi c then some n else none
def ed (l:LU):Bool:=decide (1<=l.length/\l.length<=64)&&uw l&&decide (l.foldl cY (some 0)=some 0)
theorem ux:∀ l:LU,l.foldl cY none=none
 | []=>rfl
 | _::r=>ux r
theorem uy {α:Type}(f:α->UInt8->α)(z:α)(s:BA)(k:Nat)(h:k<s.size):((bl s).take (k+1)).foldl f z=f (((bl s).take k).foldl f z) s[k]:=by
 rw[tS (by rw[ah];exact h),List.foldl_append,iC s k h];rfl
theorem qR (s:BA)(k n:Nat)(h:k<s.size)(h0:((bl s).take k).foldl cY (some 0)=some n)(h1:cY (some n) s[k]=none):ed (bl s)=false:=by
 have h2:=uy cY (some 0) s k h;rw[h0,h1] at h2;have:(bl s).foldl cY (some 0)=none:=by
  rw[<-List.take_append_drop (k+1) (bl s),List.foldl_append,h2,ux]
 unfold ed;rw[this];simp
theorem oT (s:BA)(k n m:Nat)(h:k<s.size)(h0:((bl s).take k).foldl cY (some 0)=some n)(h1:cY (some n) s[k]=some m):((bl s).take (k+1)).foldl cY (some 0)=some m:=by
 rw[uy cY (some 0) s k h,h0,h1]
theorem qS (s:BA)(k n:Nat)(h:¬ k<s.size)(h0:((bl s).take k).foldl cY (some 0)=some n)(h1:1<=s.size)(h2:s.size<=64)(h3:uw (bl s)=true):ed (bl s)=decide (n=0):=by
 rw[tL (by rw[ah];omega)] at h0;unfold ed;rw[h0,h3,ah,dT ⟨h1,h2⟩];simp
theorem oU (s:BA)(h:¬ (1<=s.size/\s.size<=64)):ed (bl s)=false:=by
 unfold ed;rw[ah,dF h];rfl
theorem Er (s:BA)(h:uw (bl s)=false):ed (bl s)=false:=by
 unfold ed;rw[h];simp
theorem IU (s:BA)(h:0<s.size):uw (bl s)=qQ s[0]:=by rw[gU s h];rfl
theorem uz (c:UInt8)(h1:ll c=false)(h2:cN c=false):(bl ⟨#[46,95,43,45,47,58]⟩).contains c=fi c:=by
 exact lD (fun c=>ll c||cN c||((bl ⟨#[46,95,43,45,47,58]⟩).contains c==fi c)) (by kernel_rfl) c |> fun hh=>by simpa [h1,h2] using hh
theorem bQ (c:UInt8)(w:World):Calls Tryz.prog 183 #[.int .u8 c.toNat] w fun e w'=>e=.returned (.bool (ll c))/\w=w':=by
 go_in;go_wp2_with fail
 all_goals go_ret
 all_goals (refine⟨af ?_,rfl⟩;rw[bI];simp[ll,jb,Ot];omega)
theorem dh (c:UInt8)(w:World):Calls Tryz.prog 184 #[.int .u8 c.toNat] w fun e w'=>e=.returned (.bool (cN c))/\w=w':=by
 go_in;go_wp2_with fail
 all_goals go_ret
 all_goals (refine⟨af ?_,rfl⟩;rw[bI];simp[cN];omega)
theorem qT (s:BA)(w:World)(hs:s.size<=9223372036854775807):Calls Tryz.prog 235 #[.string s] w fun e w'=>e=.returned (.bool (dI (bl s)))/\w=w':=by
 have hb:=ah s;have HB:=ae hb;clear hb;by_cases h3:s.size<=32
 ·go_in;go_wp2_with (go_at_call 81;refine(xI s _ _ hs).mono ?_;rintro e w' ⟨rfl,rfl⟩);go_ret;exact⟨af (by unfold dI;rw[HB.out,dT h3];simp[bl]),rfl⟩
 ·go_in;go_wp2;go_ret;exact⟨af (by unfold dI;rw[HB.out,dF h3];simp),rfl⟩
theorem nN (s:BA)(w:World)(hs:s.size<=9223372036854775807):Calls Tryz.prog 129 #[.string s] w fun e w'=>e=.returned (.bool (ed (bl s)))/\w=w':=by
 by_cases h0:s.size=0
 ·have he:s.toList=[]:=by rw[aj,bX s h0]
  have he2:s.toList.isEmpty=true:=by rw[he];rfl
  have E:Hid (ed (bl s)=false):=oU s (by omega);go_in;go_wp2;go_ret;exact⟨af E.out.symm,rfl⟩
 have hp:0<s.size:=by omega
 have he2:s.toList.isEmpty=false:=by rw[aj,bj];exact dF h0
 have he:¬ s.toList=[]:=by intro h;rw[h] at he2;simp at he2
 by_cases h64:64<s.size
 ·have E:Hid (ed (bl s)=false):=oU s (by omega);go_in;go_wp2;go_ret;exact⟨af E.out.symm,rfl⟩
 have h64':decide (64<(s.size:Int))=false:=dF (by omega);obtain⟨c0,hc0⟩:∃ c0:UInt8,s[0]=c0:=⟨_,rfl⟩
 have HH:=ae (IU s hp);rw[hc0] at HH;cases hl:ll c0 with
 | true=>
  have HD:Hid (uw (bl s)=true):=by show _=_;rw[HH.out];simp[qQ,hl]
  have hL:=fun W=>bQ c0 W;rw[hl] at hL;clear hl;go_in;go_wp2_with fail;refine(hL _).mono ?_;rintro e w' ⟨rfl,rfl⟩;go_wp2_with fail;clear hL;go_loop [3,32] (fun o i=>∃ k n:Nat,k<=s.size/\n<=k/\o=.int .i64 n/\i=.int .i64 k/\Hid (((bl s).take k).foldl cY (some 0)=some n)) (fun _ i=>s.size-(intOf i).toNat)
  case atStart=>exact⟨0,0,z0,lr,rfl,rfl,by simp[Hid]⟩
  case round=>
   obtain⟨k,n,hk,hn,rfl,rfl,HA⟩:=hrel;by_cases hlt:k<s.size
   ·obtain⟨c,hc⟩:∃ c:UInt8,s[k]=c:=⟨_,rfl⟩
    have NX:=ae (fun m=>oT s k n m hlt HA.out);have BD:=ae (qR s k n hlt HA.out);rw[hc] at NX BD;have hcc:∀ n:UInt8,c=n↔c.toNat=n.toNat:=fun n=>UInt8.toNat_inj.symm;by_cases c40:c.toNat=40
    ·have e40:(c==40)=true:=by rw[beq_iff_eq,hcc];exact c40
     have HN:=ae (NX.out (n+1) (by simp[cY,e40]));clear e40 hcc;go_wp2;go_round
     case rel=>exact⟨k+1,n+1,by omega,by omega,by go_num,by go_num,HN⟩
     case measure=>simp[intOf];omega
    have e40:(c==40)=false:=by rw[bF,ne_eq,hcc];exact c40
    by_cases c41:c.toNat=41
    ·have e41:(c==41)=true:=by rw[beq_iff_eq,hcc];exact c41
     by_cases n0:n=0
     ·have E:=ae (BD.out (by simp[cY,e40,e41,n0]));subst n0;clear e40 e41 hcc;go_wp2;go_ret;exact⟨af E.out.symm,rfl⟩
     ·have HN:=ae (NX.out (n-1) (by simp[cY,e40,e41,n0]));obtain⟨m,rfl⟩:∃ m,n=m+1:=⟨n-1,by omega⟩
      clear e40 e41 hcc;go_wp2;go_round
      case rel=>exact⟨k+1,m,by omega,by omega,by go_num,by go_num,HN⟩
      case measure=>simp[intOf];omega
    have e41:(c==41)=false:=by rw[bF,ne_eq,hcc];exact c41
    cases hl:ll c with
    | true=>
     have ho:fi c=true:=by simp[fi,hl]
     have HN:=ae (NX.out (n) (by simp[cY,e40,e41,ho]));have hL:=fun W=>bQ c W;rw[hl] at hL;clear hl ho e40 e41 hcc;go_wp2_with fail;refine(hL _).mono ?_;rintro e w' ⟨rfl,rfl⟩;go_wp2;go_round
     case rel=>exact⟨k+1,n,by omega,by omega,by go_num,by go_num,HN⟩
     case measure=>simp[intOf];omega
    | false=>
     cases hd:cN c with
     | true=>
      have ho:fi c=true:=by simp[fi,hd]
      have HN:=ae (NX.out (n) (by simp[cY,e40,e41,ho]));have hL:=fun W=>bQ c W;rw[hl] at hL;have hD:=fun W=>dh c W;rw[hd] at hD;clear hl hd ho e40 e41 hcc;go_wp2_with fail;refine(hL _).mono ?_;rintro e w' ⟨rfl,rfl⟩;go_wp2_with fail;refine(hD _).mono ?_;rintro e w' ⟨rfl,rfl⟩;go_wp2;go_round
      case rel=>exact⟨k+1,n,by omega,by omega,by go_num,by go_num,HN⟩
      case measure=>simp[intOf];omega
     | false=>
      have hco:=uz c hl hd;cases ho:fi c with
      | true=>
       have hx:=gW ⟨#[46,95,43,45,47,58]⟩ c (by rw[hco,ho]);have HN:=ae (NX.out (n) (by simp[cY,e40,e41,ho]));have hL:=fun W=>bQ c W;rw[hl] at hL;have hD:=fun W=>dh c W;rw[hd] at hD;clear hl hd ho hco e40 e41 hcc;go_wp2_with fail;refine(hL _).mono ?_;rintro e w' ⟨rfl,rfl⟩;go_wp2_with fail;refine(hD _).mono ?_;rintro e w' ⟨rfl,rfl⟩;go_wp2_with fail;refine(aU _ c _).mono ?_;rintro e w' ⟨rfl,rfl⟩;go_wp2;go_round
       case rel=>exact⟨k+1,n,by omega,by omega,by go_num,by go_num,HN⟩
       case measure=>simp[intOf];omega
      | false=>
       have hx:=gB ⟨#[46,95,43,45,47,58]⟩ c (by rw[hco,ho]);have E:=ae (BD.out (by simp[cY,e40,e41,ho]));have hL:=fun W=>bQ c W;rw[hl] at hL;have hD:=fun W=>dh c W;rw[hd] at hD;clear hl hd ho hco e40 e41 hcc;go_wp2_with fail;refine(hL _).mono ?_;rintro e w' ⟨rfl,rfl⟩;go_wp2_with fail;refine(hD _).mono ?_;rintro e w' ⟨rfl,rfl⟩;go_wp2_with fail;refine(aU _ c _).mono ?_;rintro e w' ⟨rfl,rfl⟩;go_wp2;go_ret;exact⟨af E.out.symm,rfl⟩
   ·have E:=ae (qS s k n hlt HA.out (by omega) (by omega) HD.out);go_wp2;go_ret;exact⟨af (by rw[E.out,bI];simp),rfl⟩
 | false=>
  cases hd:cN c0 with
  | true=>
   have HD:Hid (uw (bl s)=true):=by show _=_;rw[HH.out];simp[qQ,hd]
   have hL:=fun W=>bQ c0 W;rw[hl] at hL;have hD:=fun W=>dh c0 W;rw[hd] at hD;clear hl hd;go_in;go_wp2_with fail;refine(hL _).mono ?_;rintro e w' ⟨rfl,rfl⟩;go_wp2_with fail;refine(hD _).mono ?_;rintro e w' ⟨rfl,rfl⟩;go_wp2_with fail;clear hL hD;go_loop [3,32] (fun o i=>∃ k n:Nat,k<=s.size/\n<=k/\o=.int .i64 n/\i=.int .i64 k/\Hid (((bl s).take k).foldl cY (some 0)=some n)) (fun _ i=>s.size-(intOf i).toNat)
   case atStart=>exact⟨0,0,z0,lr,rfl,rfl,by simp[Hid]⟩
   case round=>
    obtain⟨k,n,hk,hn,rfl,rfl,HA⟩:=hrel;by_cases hlt:k<s.size
    ·obtain⟨c,hc⟩:∃ c:UInt8,s[k]=c:=⟨_,rfl⟩
     have NX:=ae (fun m=>oT s k n m hlt HA.out);have BD:=ae (qR s k n hlt HA.out);rw[hc] at NX BD;have hcc:∀ n:UInt8,c=n↔c.toNat=n.toNat:=fun n=>UInt8.toNat_inj.symm;by_cases c40:c.toNat=40
     ·have e40:(c==40)=true:=by rw[beq_iff_eq,hcc];exact c40
      have HN:=ae (NX.out (n+1) (by simp[cY,e40]));clear e40 hcc;go_wp2;go_round
      case rel=>exact⟨k+1,n+1,by omega,by omega,by go_num,by go_num,HN⟩
      case measure=>simp[intOf];omega
     have e40:(c==40)=false:=by rw[bF,ne_eq,hcc];exact c40
     by_cases c41:c.toNat=41
     ·have e41:(c==41)=true:=by rw[beq_iff_eq,hcc];exact c41
      by_cases n0:n=0
      ·have E:=ae (BD.out (by simp[cY,e40,e41,n0]));subst n0;clear e40 e41 hcc;go_wp2;go_ret;exact⟨af E.out.symm,rfl⟩
      ·have HN:=ae (NX.out (n-1) (by simp[cY,e40,e41,n0]));obtain⟨m,rfl⟩:∃ m,n=m+1:=⟨n-1,by omega⟩
       clear e40 e41 hcc;go_wp2;go_round
       case rel=>exact⟨k+1,m,by omega,by omega,by go_num,by go_num,HN⟩
       case measure=>simp[intOf];omega
     have e41:(c==41)=false:=by rw[bF,ne_eq,hcc];exact c41
     cases hl:ll c with
     | true=>
      have ho:fi c=true:=by simp[fi,hl]
      have HN:=ae (NX.out (n) (by simp[cY,e40,e41,ho]));have hL:=fun W=>bQ c W;rw[hl] at hL;clear hl ho e40 e41 hcc;go_wp2_with fail;refine(hL _).mono ?_;rintro e w' ⟨rfl,rfl⟩;go_wp2;go_round
      case rel=>exact⟨k+1,n,by omega,by omega,by go_num,by go_num,HN⟩
      case measure=>simp[intOf];omega
     | false=>
      cases hd:cN c with
      | true=>
       have ho:fi c=true:=by simp[fi,hd]
       have HN:=ae (NX.out (n) (by simp[cY,e40,e41,ho]));have hL:=fun W=>bQ c W;rw[hl] at hL;have hD:=fun W=>dh c W;rw[hd] at hD;clear hl hd ho e40 e41 hcc;go_wp2_with fail;refine(hL _).mono ?_;rintro e w' ⟨rfl,rfl⟩;go_wp2_with fail;refine(hD _).mono ?_;rintro e w' ⟨rfl,rfl⟩;go_wp2;go_round
       case rel=>exact⟨k+1,n,by omega,by omega,by go_num,by go_num,HN⟩
       case measure=>simp[intOf];omega
      | false=>
       have hco:=uz c hl hd;cases ho:fi c with
       | true=>
        have hx:=gW ⟨#[46,95,43,45,47,58]⟩ c (by rw[hco,ho]);have HN:=ae (NX.out (n) (by simp[cY,e40,e41,ho]));have hL:=fun W=>bQ c W;rw[hl] at hL;have hD:=fun W=>dh c W;rw[hd] at hD;clear hl hd ho hco e40 e41 hcc;go_wp2_with fail;refine(hL _).mono ?_;rintro e w' ⟨rfl,rfl⟩;go_wp2_with fail;refine(hD _).mono ?_;rintro e w' ⟨rfl,rfl⟩;go_wp2_with fail;refine(aU _ c _).mono ?_;rintro e w' ⟨rfl,rfl⟩;go_wp2;go_round
        case rel=>exact⟨k+1,n,by omega,by omega,by go_num,by go_num,HN⟩
        case measure=>simp[intOf];omega
       | false=>
        have hx:=gB ⟨#[46,95,43,45,47,58]⟩ c (by rw[hco,ho]);have E:=ae (BD.out (by simp[cY,e40,e41,ho]));have hL:=fun W=>bQ c W;rw[hl] at hL;have hD:=fun W=>dh c W;rw[hd] at hD;clear hl hd ho hco e40 e41 hcc;go_wp2_with fail;refine(hL _).mono ?_;rintro e w' ⟨rfl,rfl⟩;go_wp2_with fail;refine(hD _).mono ?_;rintro e w' ⟨rfl,rfl⟩;go_wp2_with fail;refine(aU _ c _).mono ?_;rintro e w' ⟨rfl,rfl⟩;go_wp2;go_ret;exact⟨af E.out.symm,rfl⟩
    ·have E:=ae (qS s k n hlt HA.out (by omega) (by omega) HD.out);go_wp2;go_ret;exact⟨af (by rw[E.out,bI];simp),rfl⟩
  | false=>
   by_cases h47:c0.toNat=47
   ·have c47:c0=47:=UInt8.toNat_inj.1 h47;have HD:Hid (uw (bl s)=true):=by show _=_;rw[HH.out];simp[qQ,c47]
    clear c47;have hL:=fun W=>bQ c0 W;rw[hl] at hL;have hD:=fun W=>dh c0 W;rw[hd] at hD;have b47:((c0.toNat:Int) != 47)=false:=by simp[h47]
    clear hl hd h47;go_in;go_wp2_with fail;refine(hL _).mono ?_;rintro e w' ⟨rfl,rfl⟩;go_wp2_with fail;refine(hD _).mono ?_;rintro e w' ⟨rfl,rfl⟩;go_wp2_with fail;clear hL hD;go_loop [3,32] (fun o i=>∃ k n:Nat,k<=s.size/\n<=k/\o=.int .i64 n/\i=.int .i64 k/\Hid (((bl s).take k).foldl cY (some 0)=some n)) (fun _ i=>s.size-(intOf i).toNat)
    case atStart=>exact⟨0,0,z0,lr,rfl,rfl,by simp[Hid]⟩
    case round=>
     obtain⟨k,n,hk,hn,rfl,rfl,HA⟩:=hrel;by_cases hlt:k<s.size
     ·obtain⟨c,hc⟩:∃ c:UInt8,s[k]=c:=⟨_,rfl⟩
      have NX:=ae (fun m=>oT s k n m hlt HA.out);have BD:=ae (qR s k n hlt HA.out);rw[hc] at NX BD;have hcc:∀ n:UInt8,c=n↔c.toNat=n.toNat:=fun n=>UInt8.toNat_inj.symm;by_cases c40:c.toNat=40
      ·have e40:(c==40)=true:=by rw[beq_iff_eq,hcc];exact c40
       have HN:=ae (NX.out (n+1) (by simp[cY,e40]));clear e40 hcc;go_wp2;go_round
       case rel=>exact⟨k+1,n+1,by omega,by omega,by go_num,by go_num,HN⟩
       case measure=>simp[intOf];omega
      have e40:(c==40)=false:=by rw[bF,ne_eq,hcc];exact c40
      by_cases c41:c.toNat=41
      ·have e41:(c==41)=true:=by rw[beq_iff_eq,hcc];exact c41
       by_cases n0:n=0
       ·have E:=ae (BD.out (by simp[cY,e40,e41,n0]));subst n0;clear e40 e41 hcc;go_wp2;go_ret;exact⟨af E.out.symm,rfl⟩
       ·have HN:=ae (NX.out (n-1) (by simp[cY,e40,e41,n0]));obtain⟨m,rfl⟩:∃ m,n=m+1:=⟨n-1,by omega⟩
        clear e40 e41 hcc;go_wp2;go_round
        case rel=>exact⟨k+1,m,by omega,by omega,by go_num,by go_num,HN⟩
        case measure=>simp[intOf];omega
      have e41:(c==41)=false:=by rw[bF,ne_eq,hcc];exact c41
      cases hl:ll c with
      | true=>
       have ho:fi c=true:=by simp[fi,hl]
       have HN:=ae (NX.out (n) (by simp[cY,e40,e41,ho]));have hL:=fun W=>bQ c W;rw[hl] at hL;clear hl ho e40 e41 hcc;go_wp2_with fail;refine(hL _).mono ?_;rintro e w' ⟨rfl,rfl⟩;go_wp2;go_round
       case rel=>exact⟨k+1,n,by omega,by omega,by go_num,by go_num,HN⟩
       case measure=>simp[intOf];omega
      | false=>
       cases hd:cN c with
       | true=>
        have ho:fi c=true:=by simp[fi,hd]
        have HN:=ae (NX.out (n) (by simp[cY,e40,e41,ho]));have hL:=fun W=>bQ c W;rw[hl] at hL;have hD:=fun W=>dh c W;rw[hd] at hD;clear hl hd ho e40 e41 hcc;go_wp2_with fail;refine(hL _).mono ?_;rintro e w' ⟨rfl,rfl⟩;go_wp2_with fail;refine(hD _).mono ?_;rintro e w' ⟨rfl,rfl⟩;go_wp2;go_round
        case rel=>exact⟨k+1,n,by omega,by omega,by go_num,by go_num,HN⟩
        case measure=>simp[intOf];omega
       | false=>
        have hco:=uz c hl hd;cases ho:fi c with
        | true=>
         have hx:=gW ⟨#[46,95,43,45,47,58]⟩ c (by rw[hco,ho]);have HN:=ae (NX.out (n) (by simp[cY,e40,e41,ho]));have hL:=fun W=>bQ c W;rw[hl] at hL;have hD:=fun W=>dh c W;rw[hd] at hD;clear hl hd ho hco e40 e41 hcc;go_wp2_with fail;refine(hL _).mono ?_;rintro e w' ⟨rfl,rfl⟩;go_wp2_with fail;refine(hD _).mono ?_;rintro e w' ⟨rfl,rfl⟩;go_wp2_with fail;refine(aU _ c _).mono ?_;rintro e w' ⟨rfl,rfl⟩;go_wp2;go_round
         case rel=>exact⟨k+1,n,by omega,by omega,by go_num,by go_num,HN⟩
         case measure=>simp[intOf];omega
        | false=>
         have hx:=gB ⟨#[46,95,43,45,47,58]⟩ c (by rw[hco,ho]);have E:=ae (BD.out (by simp[cY,e40,e41,ho]));have hL:=fun W=>bQ c W;rw[hl] at hL;have hD:=fun W=>dh c W;rw[hd] at hD;clear hl hd ho hco e40 e41 hcc;go_wp2_with fail;refine(hL _).mono ?_;rintro e w' ⟨rfl,rfl⟩;go_wp2_with fail;refine(hD _).mono ?_;rintro e w' ⟨rfl,rfl⟩;go_wp2_with fail;refine(aU _ c _).mono ?_;rintro e w' ⟨rfl,rfl⟩;go_wp2;go_ret;exact⟨af E.out.symm,rfl⟩
     ·have E:=ae (qS s k n hlt HA.out (by omega) (by omega) HD.out);go_wp2;go_ret;exact⟨af (by rw[E.out,bI];simp),rfl⟩
   ·have E:Hid (ed (bl s)=false):=Er s (by rw[HH.out];simp only[qQ,hl,hd];simp;intro e;exact h47 (by rw[e];rfl));have hL:=fun W=>bQ c0 W;rw[hl] at hL;have hD:=fun W=>dh c0 W;rw[hd] at hD;clear hl hd;have b47:=SC (b:=47) (by omega:(c0.toNat:Int)≠47);go_in;go_wp2_with fail;refine(hL _).mono ?_;rintro e w' ⟨rfl,rfl⟩;go_wp2_with fail;refine(hD _).mono ?_;rintro e w' ⟨rfl,rfl⟩;go_wp2;go_ret;exact⟨af E.out.symm,rfl⟩
end
end Go.Proofs.YtlglfpbhapmhiaaGreatDoor
