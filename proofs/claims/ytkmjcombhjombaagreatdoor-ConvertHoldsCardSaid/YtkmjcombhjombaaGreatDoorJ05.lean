/- A part of the proof. -/
import Derived.Test.YtkmjcombhjombaaGreatDoorJ03
import Derived.Test.YtkmjcombhjombaaGreatDoorJ04
set_option maxRecDepth 100000
set_option maxHeartbeats 20000000
set_option linter.unusedVariables false
set_option linter.unusedSimpArgs false
namespace Go.Proofs.YtkmjcombhjombaaGreatDoor
variable{s:BA}{k:Nat}{c:UInt8}{w:World}
open Go.Proofs.Tryz
section
open Go.RowKit
theorem jI (p:UInt8->Bool)(l:LU):fS p l<=l.length:=by
 unfold fS;exact(List.takeWhile_sublist p).length_le
theorem ZZ (p:UInt8->Bool)(l:LU):decide (fS p l=l.length)=l.all p:=by
 rw[bI];constructor
 ·intro h;have h:=dO h;have:=(List.takeWhile_sublist p (l:=l)).eq_of_length h;rw[<-this];simp
 ·intro h;unfold fS;rw[ru _ h];simp
theorem LM (p:UInt8->Bool)(s:BA):(((fS p (bl s):Nat):Int)==(s.size:Int))=(bl s).all p:=by
 rw[<-ZZ,fI,bI];simp;omega
theorem tI (s:BA)(j:Nat)(c:UInt8)(h:j<s.size):((s.data[j]!).toNat:Int)=c.toNat↔(bl s)[j]?=some c:=by
 rw[pN s j h];have e:s.data[j]! = s[j]:=getElem!_pos s.data j h;rw[e];constructor
 ·intro z;congr 1;apply UInt8.toNat_inj.1;omega
 ·intro z;injection z with z;rw[z]
theorem JW (s:BA)(j:Nat)(h:¬ j<s.size):(bl s)[j]?=none:=by
 apply List.getElem?_eq_none;rw[fI];omega
theorem LP (s:BA)(c:UInt8)(h:ll c (bl s)=none):Lib.lastIndexByte s c.toNat=-1:=by
 rcases Lib.lastIndexByte_spec s c.toNat with⟨e,_⟩ | ⟨i,I,e,H,J⟩
 ·exact e
 ·have:=sI c (bl s) i ((tI s i c I).1 H) (fun j F D=>by
   by_cases z:j<s.size
   ·exact J j F z ((tI s j c z).2 D)
   ·rw[JW s j z] at D;cases D)
  rw[this] at h;cases h
theorem LQ (s:BA)(c:UInt8)(i:Nat)(h:ll c (bl s)=some i):Lib.lastIndexByte s c.toNat=i:=by
 rcases Lib.lastIndexByte_spec s c.toNat with⟨e,F⟩ | ⟨k,H,e,J,F⟩
 ·have:=CP c (bl s) (fun j D=>by
   by_cases z:j<s.size
   ·exact F j z ((tI s j c z).2 D)
   ·rw[JW s j z] at D;cases D)
  rw[this] at h;cases h
 ·have:=sI c (bl s) k ((tI s k c H).1 J) (fun j I D=>by
   by_cases z:j<s.size
   ·exact F j I z ((tI s j c z).2 D)
   ·rw[JW s j z] at D;cases D)
  rw[this] at h;injection h with h;rw[e,h]
theorem Gz (c:UInt8)(a:Addr)(o:BA)(w:World)(F:w.cell? a=some (.string o)):Calls prog 263 #[.int .u8 c.toNat,.pointer (some a)] w fun e w'=>e=.returned (.bool (ku c||gf c||(bl o).contains c))/\w=w':=by
 cases h1:ku c
 ·cases h2:gf c
  ·cases h3:(bl o).contains c
   ·have z:=nP o c h3;have D:=fH h3;clear h3;go_in;go_wp2_with (first | (go_at_call 264;refine mb (kw _ _) ?_;rintro w' rfl) | (go_at_call 214;refine mb (je _ _) ?_;rintro w' rfl) | (go_at_call 142;refine mb (gW _ _ _) ?_;rintro w' rfl));go_ret;exact⟨fJ dF,rfl⟩
   ·have z:=oV o c h3;have D:=fH h3;clear h3;go_in;go_wp2_with (first | (go_at_call 264;refine mb (kw _ _) ?_;rintro w' rfl) | (go_at_call 214;refine mb (je _ _) ?_;rintro w' rfl) | (go_at_call 142;refine mb (gW _ _ _) ?_;rintro w' rfl));go_ret;exact⟨fJ rfl,rfl⟩
  ·go_in;go_wp2_with (first | (go_at_call 264;refine mb (kw _ _) ?_;rintro w' rfl) | (go_at_call 214;refine mb (je _ _) ?_;rintro w' rfl));go_ret;exact⟨rfl,rfl⟩
 ·go_in;go_wp2_with (first | (go_at_call 264;refine mb (kw _ _) ?_;rintro w' rfl));go_ret;exact⟨rfl,rfl⟩
theorem TJ (s o:BA)(a:Addr)(w:World)(D:w.cell? a=some (.string o))(z:s.size<=9223372036854775807):Calls prog 217 #[.string s,.func (.func 263) #[] #[.pointer (some a)]] w fun e w'=>e=.returned (.int .i64 (fS (ZY (bl o)) (bl s)))/\w=w':=
 JU _ _ _ s w z Tryz.call263 (fH fun c=>Gz c a o w D)
theorem JX (s o:BA)(w:World)(F:s.size<=9223372036854775807):Calls prog 213 #[.string s,.string o] w fun e w'=>e=.returned (.bool (iq (bl o) (bl s)))/\Bw w w':=by
 by_cases z:s.size=0
 ·have D:s.toList=[]:=by rw[fK,hZ s z]
  go_in;go_wp2;go_ret;exact⟨fJ (by rw[hZ s z];rfl),bR.alloc lr _⟩
 ·have D:s.toList.isEmpty=false:=by rw[fK,gu];simpa using z
  have H:¬ s.toList=[]:=by intro h;rw[h] at D;simp at D
  go_in;go_wp2_with (go_at_call 217;refine mb (TJ _ _ _ _ (by simp;rfl) F) ?_;rintro w' rfl);go_ret;refine⟨fJ ?_,bR.alloc lr _⟩;rw[LM];unfold iq;rw[gu,dF z];rfl
theorem CQ (s:BA)(w:World)(F:s.size<=9223372036854775807):Calls prog 212 #[.string s] w fun e w'=>e=.returned (.bool (rx (bl s)))/\w=w':=by
 by_cases z:s.size=0
 ·have D:s.toList=[]:=by rw[fK,hZ s z]
  go_in;go_wp2;go_ret;exact⟨fJ (by rw[hZ s z];rfl),rfl⟩
 ·have D:s.toList.isEmpty=false:=by rw[fK,gu];simpa using z
  have H:¬ s.toList=[]:=by intro h;rw[h] at D;simp at D
  go_in;go_wp2_with (go_at_call 217;refine mb (pX _ _ F) ?_;rintro w' rfl);go_ret;refine⟨fJ ?_,rfl⟩;rw[LM];unfold rx;rw[gu,dF z];rfl
theorem kx (s:BA)(c:UInt8)(w:World)(F:s.size<=9223372036)(h:Hid (ll c (bl s)=none)):Calls prog 165 #[.string s,.int .u8 c.toNat] w fun e w'=>e=.returned (.int .i64 (-1))/\w=w':=
 (Tryz.strings_LastIndexByte s c.toNat (by omega) w).mono fun _ _ ⟨D,z⟩=>⟨by rw[D,LP s c h.out],z.symm⟩
theorem iQ (s:BA)(c:UInt8)(i:Nat)(w:World)(F:s.size<=9223372036)(h:Hid (ll c (bl s)=some i)):Calls prog 165 #[.string s,.int .u8 c.toNat] w fun e w'=>e=.returned (.int .i64 i)/\w=w':=
 (Tryz.strings_LastIndexByte s c.toNat (by omega) w).mono fun _ _ ⟨D,z⟩=>⟨by rw[D,LQ s c i h.out],z.symm⟩
theorem iH (s z:BA)(w:World)(I:Gl w)(J:s.size<=4294967280):Calls prog 96 #[.string s,.string z] w fun e w'=>e=.returned (.tuple #[.string (nx s z),.string (qp s z),.bool (Gy s z)])/\Bw w w':=by
 obtain⟨m,F⟩:=I.ml;exact(Tryz.strings_Cut s z m w (by omega) F).mono fun _ _ ⟨H,n,D⟩=>⟨H,by rw[D];exact gh bR n⟩
def kQ (s:BA):List BA:=(jT (bl s)).map fun p=>(⟨p.toArray⟩:BA)
theorem An (l:List BA):(l.map bl).map (fun p=>(⟨p.toArray⟩:BA))=l:=by
 rw[List.map_map];conv=>rhs;rw[<-List.map_id l]
 apply List.map_congr_left;intro a _;apply kG;simp[bl]
theorem vy (s:BA):Lib.splitB ⟨#[47]⟩ 0 (Lib.countB s ⟨#[47]⟩) s=kQ s:=by
 have h:=Lib.splitB_data ⟨#[47]⟩ 0 (Lib.countB s ⟨#[47]⟩) s;have z:Lib.countB s ⟨#[47]⟩=(bl s).count 47:=by
  show Lib.count _ _=_;exact Lib.count_one 47 (bl s)
 have D:(Lib.splitB ⟨#[47]⟩ 0 (Lib.countB s ⟨#[47]⟩) s).map bl=jT (bl s):=by
  refine Eq.trans h ?_;rw[z];exact vx _ (bl s) rfl
 unfold kQ;rw[<-D,An]
theorem TW (s:BA)(w:World)(J:Gl w)(K:s.size<=4294967280):Calls prog 133 #[.string s,.string ⟨#[47]⟩] w fun e w'=>e=.returned (.slice (some ⟨w.heap.size,0,none⟩) (kQ s).length (kQ s).length)/\Rd w' 1 (some ⟨w.heap.size,0,none⟩) (kQ s).length (strCells (kQ s))/\Bw w w':=by
 obtain⟨m,F⟩:=J.ml;refine(Tryz.strings_Split s ⟨#[47]⟩ m w (by omega) F (by decide)).mono fun e w' ⟨H,z⟩=>?_;have D:(kQ s).length=Lib.countB s ⟨#[47]⟩+1:=by
  rw[<-vy];exact Lib.splitB_all ⟨#[47]⟩ (by decide) 0 _ s rfl
 rw[vy] at z;rw[D,z];refine⟨H,⟨by simp[strCells,D],fun _=>⟨_,0,rfl,fun j u I=>?_⟩⟩,bR.alloc lr _⟩;simpa [strCells] using I
theorem Ig (s:BA)(w:World):Calls prog 119 #[.string s,.string ⟨#[0]⟩] w fun e w'=>e=.returned (.bool ((bl s).contains 0))/\w=w':=
 (Tryz.strings_Contains_one s 0 w).mono fun e w' ⟨D,z⟩=>⟨by
  rw[D];congr 2;cases h:(bl s).contains 0
  ·have:=nP s 0 h;unfold JT at this;simp only[bl] at this;simp;omega
  ·have:=oV s 0 h;unfold JT at this;simp only[bl] at this;simpa using this,z.symm⟩
theorem Ih (w:World)(s:BA):nE (w.alloc (.cells #[.string s] 9)) (w.heap.size+1) 1 (some ⟨w.heap.size,0,none⟩) 1 [.string s]:=by
 refine⟨rfl,fun _=>⟨_,rfl,by simp,fun j u z=>?_⟩⟩;cases j with
 | zero=>simp at z;subst z;simp[Addr.add]
 | succ j=>simp at z
theorem wY (p:BA):L5 (bl p)=!(p.toList.isEmpty||p.toList == [46]||p.toList == [46,46]):=by
 rw[fK];unfold L5;rw[bI];simp
theorem L9 (s:BA)(k:Nat)(x:BA)(h:(kQ s)[k]?=some x):(jT (bl s))[k]?=some (bl x):=by
 unfold kQ at h;rw[List.getElem?_map] at h;obtain⟨p,z,rfl⟩:=Option.map_eq_some_iff.1 h;rw[z,nj]
theorem Ap (s:BA):(kQ s).length=(jT (bl s)).length:=by simp[kQ]
theorem vz:∀ (l:LU),(jT l).length<=l.length+1
 | []=>by simp[jT]
 | c::r=>by
  have:=vz r;by_cases z:c=47
  ·rw[jT,if_pos z];simp;omega
  ·obtain⟨p,H,F,D⟩:=qq z r;rw[F] at this;rw[D];simp at *;omega
theorem Ma {α:Type}{p:α->Bool}{l:List α}{x:α}(h:l[k]?=some x)(F:(l.take k).all p=true)(H:p x=true):(l.take (k+1)).all p=true:=by
 obtain⟨D,z⟩:=gS h;rw[tS D,List.all_append,F,z];simp[H]
theorem sJ {α:Type}{p:α->Bool}{l:List α}{x:α}(h:l[k]?=some x)(z:p x=false):l.all p=false:=by
 rw[List.all_eq_false];exact⟨x,gM h,by simp[z]⟩
theorem vU (s:BA)(w:World)(R:Gl w)(hs:s.size<=9223372036854775807):Calls prog 115 #[.string s] w fun e w'=>e=.returned (.bool (qr (bl s)))/\Bw w w':=by
 have U:=fH R;clear R;by_cases h1:s.size<1
 ·have E:Hid (qr (bl s)=false):=by show _=_;unfold qr;rw[fI,show decide (1<=s.size)=false from dF (by omega)];rfl
  go_in;go_wp2;go_ret;exact⟨fJ E.out.symm,bR⟩
 by_cases Z:200<s.size
 ·have E:Hid (qr (bl s)=false):=by show _=_;unfold qr;rw[fI,show decide (s.size<=200)=false from dF (by omega)];simp
  go_in;go_wp2;go_ret;exact⟨fJ E.out.symm,bR⟩
 go_in;go_wp2_with fail;refine mb (Ig _ _) ?_;rintro w' rfl;cases h0:(bl s).contains 0
 ·go_wp2_with fail;refine(TW s _ U (by omega)).mono ?_;rintro e Y ⟨rfl,O,J⟩;have V:=fH O;have D:=fH J;clear O J;have hN:(kQ s).length<=201:=by rw[Ap];have:=vz (bl s);rw[fI] at this;omega
  have E:Hid (qr (bl s)=(jT (bl s)).all L5):=by show _=_;unfold qr;rw[h0,fI,show decide (1<=s.size)=true from dT (by omega),show decide (s.size<=200)=true from dT (by omega)];simp
  have X:=fH (Ap s);clear h0;go_wp2;go_loop [20] (fun i=>∃ k:Nat,k<=(kQ s).length/\i=.int .i64 k/\Hid (((jT (bl s)).take k).all L5=true)) (fun i=>(kQ s).length-(intOf i).toNat)
  case atStart=>exact⟨0,z0,rfl,by simp[Hid]⟩
  case round=>
   obtain⟨k,hk,rfl,K⟩:=hrel;by_cases z:k<(kQ s).length
   ·obtain⟨x,I⟩:∃ x,(kQ s)[k]?=some x:=⟨_,gG z⟩
    obtain⟨b,off,M,he⟩:=V.str k x I;have H:=fun W=>gi (T:=33) (E:=9) (sz:=1) (c:=(kQ s).length) underlying33 rfl sizeOf9 M z W;simp only[Nat.mul_one] at H;have F:=fH (L9 s k x I);clear I M;go_wp2
    ·go_ret;exact⟨fJ (by rw[E.out];exact(sJ F (by rw[wY];simp_all)).symm),D⟩
    ·go_ret;exact⟨fJ (by rw[E.out];exact(sJ F (by rw[wY];simp_all)).symm),D⟩
    ·go_ret;exact⟨fJ (by rw[E.out];exact(sJ F (by rw[wY];simp_all)).symm),D⟩
    ·go_round
     case rel=>exact⟨k+1,by omega,by go_num,fH (Ma F K (by rw[wY];simp_all))⟩
     case measure=>simp[intOf];omega
   ·go_wp2;go_ret;exact⟨fJ (by rw[E.out];have:=K.out;rw[tL (by rw[<-X.out];omega)] at this;exact this.symm),D⟩
 ·have E:Hid (qr (bl s)=false):=by show _=_;unfold qr;rw[h0];simp
  go_wp2;go_ret;exact⟨fJ E.out.symm,bR⟩
theorem gw {fn:Func}{t u v x:Tmp}(h:fn.results=#[.tmp t,.tmp u,.tmp v,.tmp x])(z:Array Value)(P:Program)(w:World):
  (results fn z).run P w=.ok (.tuple #[z.getD t undef,z.getD u undef,z.getD v undef,z.getD x undef]) w:=by simp[results,h]
def jl (r:Option (LU×LU×LU))(w:World)(e:Ending)(w':World):Prop:=
 ∃ (ep pr rv:BA) (ok:Bool),e=.returned (.tuple #[.string ep,.string pr,.string rv,.bool ok])/\r=(if ok=true then some (bl ep,bl pr,bl rv) else none)/\ep.size<=64/\pr.size<=64/\rv.size<=64/\Bw w w'
theorem jl.no {r:Option (LU×LU×LU)}{w':World}(h:r=none)(z:Bw w w'):jl r w (.returned (.tuple #[.string ⟨#[]⟩,.string ⟨#[]⟩,.string ⟨#[]⟩,.bool false])) w':=
 ⟨_,_,_,_,rfl,h,by decide,by decide,by decide,z⟩
theorem Mb (l:LU)(h:(Lib.cut l [58]).2.2=false):kO l=some ([],l):=by simp[kO,h]
theorem TX (l:LU)(h:(Lib.cut l [58]).2.2=true)(z:rx (Lib.cut l [58]).1=true)(D:(Lib.cut l [58]).1.length<=9):kO l=some ((Lib.cut l [58]).1,(Lib.cut l [58]).2.1):=by simp[kO,h,z,D]
theorem J1 (l:LU)(h:(Lib.cut l [58]).2.2=true)(z:¬ (rx (Lib.cut l [58]).1=true/\(Lib.cut l [58]).1.length<=9)):kO l=none:=by simp[kO,h,z]
theorem oW (ep p:LU)(h:ll 45 p=none)(z:iq [46,43,126,45] p=false\/qW p=false):(nD p).map (fun r=>(ep,r.1,r.2))=none:=by
 unfold nD;rw[h];rcases z with z | z<;>simp[z]
theorem tM (ep p:LU)(h:ll 45 p=none)(z:iq [46,43,126,45] p=true)(D:qW p=true):(nD p).map (fun r=>(ep,r.1,r.2))=some (ep,p,[]):=by
 unfold nD;rw[h];simp[z,D]
theorem md (ep p:LU)(i:Nat)(h:ll 45 p=some i)(z:iq [46,43,126] (p.drop (i+1))=false\/iq [46,43,126,45] (p.take i)=false\/qW (p.take i)=false):(nD p).map (fun r=>(ep,r.1,r.2))=none:=by
 unfold nD;rw[h];rcases z with z | z | z<;>simp[z]
theorem tN (ep p:LU)(i:Nat)(h:ll 45 p=some i)(F:iq [46,43,126] (p.drop (i+1))=true)(z:iq [46,43,126,45] (p.take i)=true)(D:qW (p.take i)=true):(nD p).map (fun r=>(ep,r.1,r.2))=some (ep,p.take i,p.drop (i+1)):=by
 unfold nD;rw[h];simp[F,z,D]
theorem gp (s o:BA)(b:Bool)(w:World)(z:s.size<=9223372036854775807)(h:Hid (iq (bl o) (bl s)=b)):Calls prog 213 #[.string s,.string o] w fun e w'=>e=.returned (.bool b)/\Bw w w':=by
 rw[<-h.out];exact JX s o w z
theorem gO (s:BA)(b:Bool)(w:World)(z:s.size<=9223372036854775807)(h:Hid (rx (bl s)=b)):Calls prog 212 #[.string s] w fun e w'=>e=.returned (.bool b)/\w=w':=by
 rw[<-h.out];exact CQ s w z
theorem vV (s:BA)(w:World)(hG:Gl w)(hs:s.size<=64)(hk:Gy s ⟨#[58]⟩=false):Calls prog 161 #[.string s] w (jl (mg (bl s)) w):=by
 have R:=fH hG;clear hG;have X:Hid (mg (bl s)=(nD (bl s)).map fun r=>([],r.1,r.2)):=by
  show _=_;unfold mg;rw[Mb (bl s) hk]
 cases hl:ll 45 (bl s) with
 | none=>
  have F:=fH hl;clear hl;cases hm:iq [46,43,126,45] (bl s)
  ·have H:=fH hm;clear hm;go_in;go_wp2_with fail;refine mb (iH s _ _ R (by omega)) ?_;rintro Y D;go_wp2_with fail;refine mb (kx s 45 _ (by omega) F) ?_;rintro I rfl;go_wp2_with fail;refine mb (gp _ _ false _ (by omega) (by exact H)) ?_;rintro I z;go_wp2_with fail;refine bodyPost_ret (gw rfl _ _ _) rfl ?_;exact⟨⟨#[]⟩,s,⟨#[]⟩,false,rfl,by rw[X.out,oW _ _ F.out (.inl H.out)];rfl,by decide,by omega,by decide,fM D z⟩
  ·have H:=fH hm;have O:=uJ _ _ hm;clear hm;go_in;go_wp2_with fail;refine mb (iH s _ _ R (by omega)) ?_;rintro Y D;go_wp2_with fail;refine mb (kx s 45 _ (by omega) F) ?_;rintro I rfl;go_wp2_with fail;refine mb (gp _ _ true _ (by omega) (by exact H)) ?_;rintro I z;go_wp2_with fail;refine mb (je s[0] _) ?_;rintro w3 rfl;go_wp2_with fail;refine bodyPost_ret (gw rfl _ _ _) rfl ?_;refine⟨⟨#[]⟩,s,⟨#[]⟩,gf s[0],rfl,?_,by decide,by omega,by decide,fM D z⟩;rw[X.out];cases hd:gf s[0]
   ·rw[oW _ _ F.out (.inr (by rw[lG _ O];exact hd))];rfl
   ·rw[tM _ _ F.out H.out (by rw[lG _ O];exact hd)];rfl
 | some i=>
  have hi:=wR _ _ _ hl;rw[fI] at hi;have F:=fH hl;clear hl;have U:(s.extract (i+1) s.size).size<=64:=by rw[ByteArray.size_extract];omega
  have V:(s.extract 0 i).size<=64:=by rw[ByteArray.size_extract];omega
  cases hr:iq [46,43,126] ((bl s).drop (i+1))
  ·have Z:Hid (iq [46,43,126] (bl (s.extract (i+1) s.size))=false):=by show _=_;rw[ik];exact hr
   have K:=fH hr;clear hr;go_in;go_wp2_with fail;refine mb (iH s _ _ R (by omega)) ?_;rintro Y D;go_wp2_with fail;refine mb (iQ s 45 i _ (by omega) F) ?_;rintro I rfl;go_wp2;go_region;go_wp2_with fail;refine mb (gp (s.extract (i+1) s.size) ⟨#[46,43,126]⟩ false _ (by omega) (by exact Z)) ?_;rintro I z;go_wp2_with fail;refine bodyPost_ret (gw rfl _ _ _) rfl ?_;exact jl.no (by rw[X.out,md _ _ i F.out (.inl K.out)]) (fM D.drew z)
  ·have Z:Hid (iq [46,43,126] (bl (s.extract (i+1) s.size))=true):=by show _=_;rw[ik];exact hr
   have K:=fH hr;clear hr;cases hm:iq [46,43,126,45] ((bl s).take i)
   ·have H:Hid (iq [46,43,126,45] (bl (s.extract 0 i))=false):=by show _=_;rw[jp];exact hm
    have J:=fH hm;clear hm;go_in;go_wp2_with fail;refine mb (iH s _ _ R (by omega)) ?_;rintro Y D;go_wp2_with fail;refine mb (iQ s 45 i _ (by omega) F) ?_;rintro I rfl;go_wp2;go_region;go_wp2_with fail;refine mb (gp (s.extract (i+1) s.size) ⟨#[46,43,126]⟩ true _ (by omega) (by exact Z)) ?_;rintro I z;go_wp2_with fail;refine mb (gp (s.extract 0 i) ⟨#[46,43,126,45]⟩ false _ (by omega) (by exact H)) ?_;rintro w3 M;go_wp2_with fail;refine bodyPost_ret (gw rfl _ _ _) rfl ?_;exact⟨⟨#[]⟩,s.extract 0 i,s.extract (i+1) s.size,false,rfl,by rw[X.out,md _ _ i F.out (.inr (.inl J.out))];rfl,by decide,V,U,fM (fM D.drew z) M⟩
   ·have H:Hid (iq [46,43,126,45] (bl (s.extract 0 i))=true):=by show _=_;rw[jp];exact hm
    have O:=uJ _ (s.extract 0 i) H.out;have aa:0<min i s.size:=by rw[ByteArray.size_extract] at O;omega
    have J:=fH hm;clear hm;go_in;go_wp2_with fail;refine mb (iH s _ _ R (by omega)) ?_;rintro Y D;go_wp2_with fail;refine mb (iQ s 45 i _ (by omega) F) ?_;rintro I rfl;go_wp2;go_region;go_wp2_with fail;refine mb (gp (s.extract (i+1) s.size) ⟨#[46,43,126]⟩ true _ (by omega) (by exact Z)) ?_;rintro I z;go_wp2_with fail;refine mb (gp (s.extract 0 i) ⟨#[46,43,126,45]⟩ true _ (by omega) (by exact H)) ?_;rintro w3 M;go_wp2_with fail;refine mb (je (s.extract 0 i)[0] _) ?_;rintro w4 rfl;go_wp2_with fail;refine bodyPost_ret (gw rfl _ _ _) rfl ?_;refine⟨⟨#[]⟩,s.extract 0 i,s.extract (i+1) s.size,gf (s.extract 0 i)[0],rfl,?_,by decide,V,U,fM (fM D.drew z) M⟩;rw[X.out];cases hd:gf (s.extract 0 i)[0]
    ·rw[md _ _ i F.out (.inr (.inr (by rw[<-jp,lG _ O];exact hd)))];rfl
    ·rw[tN _ _ i F.out K.out J.out (by rw[<-jp,lG _ O];exact hd),if_pos rfl,jp,ik];rfl
theorem vW (s t u:BA)(w:World)(hG:Gl w)(hs:s.size<=64)(hk:Gy s ⟨#[58]⟩=true)(ht:t=qp s ⟨#[58]⟩)(hu:u=nx s ⟨#[58]⟩)
  (hn:rx (bl u)=true)(K:u.size<=9):Calls prog 161 #[.string s] w (jl (mg (bl s)) w):=by
 have V:=fH hG;clear hG;have HE:Hid (mg (bl s)=(nD (bl t)).map fun r=>(bl u,r.1,r.2)):=by
  show _=_;unfold mg;rw[TX (bl s) hk (by rw[hu,li] at hn;exact hn) (by rw[hu,<-fI,li] at K;exact K),ht,hu,mM,li];rfl
 have ad:t.size<=64:=by have:=Cd s ⟨#[58]⟩;rw[ht];omega
 have Z:=fH hn;clear hn;have ac:=ht.symm;have ab:=hu.symm;clear ht hu;cases K:ll 45 (bl t) with
 | none=>
  have F:=fH K;clear K;cases hm:iq [46,43,126,45] (bl t)
  ·have H:=fH hm;clear hm;go_in;go_wp2_with fail;refine mb (iH s _ _ V (by omega)) ?_;rintro w1 D;go_wp2_with fail;refine mb (gO _ _ _ (by omega) Z) ?_;rintro I rfl;go_wp2_with fail;refine mb (kx t 45 _ (by omega) F) ?_;rintro J rfl;go_wp2_with fail;refine mb (gp _ _ false _ (by omega) (by exact H)) ?_;rintro J z;go_wp2_with fail;refine bodyPost_ret (gw rfl _ _ _) rfl ?_;exact⟨u,t,⟨#[]⟩,false,rfl,by rw[HE.out,oW _ _ F.out (.inl H.out)];rfl,by omega,by omega,by decide,fM D z⟩
  ·have H:=fH hm;have U:=uJ _ _ hm;clear hm;go_in;go_wp2_with fail;refine mb (iH s _ _ V (by omega)) ?_;rintro w1 D;go_wp2_with fail;refine mb (gO _ _ _ (by omega) Z) ?_;rintro I rfl;go_wp2_with fail;refine mb (kx t 45 _ (by omega) F) ?_;rintro J rfl;go_wp2_with fail;refine mb (gp _ _ true _ (by omega) (by exact H)) ?_;rintro J z;go_wp2_with fail;refine mb (je t[0] _) ?_;rintro w3 rfl;go_wp2_with fail;refine bodyPost_ret (gw rfl _ _ _) rfl ?_;refine⟨u,t,⟨#[]⟩,gf t[0],rfl,?_,by omega,by omega,by decide,fM D z⟩;rw[HE.out];cases hd:gf t[0]
   ·rw[oW _ _ F.out (.inr (by rw[lG _ U];exact hd))];rfl
   ·rw[tM _ _ F.out H.out (by rw[lG _ U];exact hd)];rfl
 | some i=>
  have hi:=wR _ _ _ K;rw[fI] at hi;have F:=fH K;clear K;have X:(t.extract (i+1) t.size).size<=64:=by rw[ByteArray.size_extract];omega
  have Y:(t.extract 0 i).size<=64:=by rw[ByteArray.size_extract];omega
  cases hr:iq [46,43,126] ((bl t).drop (i+1))
  ·have HR:Hid (iq [46,43,126] (bl (t.extract (i+1) t.size))=false):=by show _=_;rw[ik];exact hr
   have O:=fH hr;clear hr;go_in;go_wp2_with fail;refine mb (iH s _ _ V (by omega)) ?_;rintro w1 D;go_wp2_with fail;refine mb (gO _ _ _ (by omega) Z) ?_;rintro I rfl;go_wp2_with fail;refine mb (iQ t 45 i _ (by omega) F) ?_;rintro J rfl;go_wp2;go_region;go_wp2_with fail;refine mb (gp (t.extract (i+1) t.size) ⟨#[46,43,126]⟩ false _ (by omega) (by exact HR)) ?_;rintro J z;go_wp2_with fail;refine bodyPost_ret (gw rfl _ _ _) rfl ?_;exact jl.no (by rw[HE.out,md _ _ i F.out (.inl O.out)]) (fM D.drew z)
  ·have HR:Hid (iq [46,43,126] (bl (t.extract (i+1) t.size))=true):=by show _=_;rw[ik];exact hr
   have O:=fH hr;clear hr;cases hm:iq [46,43,126,45] ((bl t).take i)
   ·have H:Hid (iq [46,43,126,45] (bl (t.extract 0 i))=false):=by show _=_;rw[jp];exact hm
    have M:=fH hm;clear hm;go_in;go_wp2_with fail;refine mb (iH s _ _ V (by omega)) ?_;rintro w1 D;go_wp2_with fail;refine mb (gO _ _ _ (by omega) Z) ?_;rintro I rfl;go_wp2_with fail;refine mb (iQ t 45 i _ (by omega) F) ?_;rintro J rfl;go_wp2;go_region;go_wp2_with fail;refine mb (gp (t.extract (i+1) t.size) ⟨#[46,43,126]⟩ true _ (by omega) (by exact HR)) ?_;rintro J z;go_wp2_with fail;refine mb (gp (t.extract 0 i) ⟨#[46,43,126,45]⟩ false _ (by omega) (by exact H)) ?_;rintro w3 R;go_wp2_with fail;refine bodyPost_ret (gw rfl _ _ _) rfl ?_;exact⟨u,t.extract 0 i,t.extract (i+1) t.size,false,rfl,by rw[HE.out,md _ _ i F.out (.inr (.inl M.out))];rfl,by omega,Y,X,fM (fM D.drew z) R⟩
   ·have H:Hid (iq [46,43,126,45] (bl (t.extract 0 i))=true):=by show _=_;rw[jp];exact hm
    have U:=uJ _ (t.extract 0 i) H.out;have aa:0<min i t.size:=by rw[ByteArray.size_extract] at U;omega
    have M:=fH hm;clear hm;go_in;go_wp2_with fail;refine mb (iH s _ _ V (by omega)) ?_;rintro w1 D;go_wp2_with fail;refine mb (gO _ _ _ (by omega) Z) ?_;rintro I rfl;go_wp2_with fail;refine mb (iQ t 45 i _ (by omega) F) ?_;rintro J rfl;go_wp2;go_region;go_wp2_with fail;refine mb (gp (t.extract (i+1) t.size) ⟨#[46,43,126]⟩ true _ (by omega) (by exact HR)) ?_;rintro J z;go_wp2_with fail;refine mb (gp (t.extract 0 i) ⟨#[46,43,126,45]⟩ true _ (by omega) (by exact H)) ?_;rintro w3 R;go_wp2_with fail;refine mb (je (t.extract 0 i)[0] _) ?_;rintro w4 rfl;go_wp2_with fail;refine bodyPost_ret (gw rfl _ _ _) rfl ?_;refine⟨u,t.extract 0 i,t.extract (i+1) t.size,gf (t.extract 0 i)[0],rfl,?_,by omega,Y,X,fM (fM D.drew z) R⟩;rw[HE.out];cases hd:gf (t.extract 0 i)[0]
    ·rw[md _ _ i F.out (.inr (.inr (by rw[<-jp,lG _ U];exact hd)))];rfl
    ·rw[tN _ _ i F.out O.out M.out (by rw[<-jp,lG _ U];exact hd),if_pos rfl,jp,ik]
theorem vX (s u:BA)(w:World)(M:Gl w)(Y:s.size<=64)(R:Gy s ⟨#[58]⟩=true)(F:u=nx s ⟨#[58]⟩)
  (D:¬ (rx (bl u)=true/\u.size<=9)):Calls prog 161 #[.string s] w (jl (mg (bl s)) w):=by
 have J:=fH M;clear M;have K:Hid (mg (bl s)=none):=by
  show _=_;unfold mg;rw[J1 (bl s) R (by rw[F,<-fI,li] at D;exact D)]
 have U:u.size<=64:=by have:=wS s ⟨#[58]⟩;rw[F];omega
 have V:=F.symm;clear F;cases hb:rx (bl u)
 ·have I:=fH hb;clear hb D;go_in;go_wp2_with fail;refine mb (iH s _ _ J (by omega)) ?_;rintro O z;go_wp2_with fail;refine mb (gO _ _ _ (by omega) I) ?_;rintro H rfl;go_wp2_with fail;refine bodyPost_ret (gw rfl _ _ _) rfl ?_;exact jl.no K z
 ·have X:9<u.size:=by rw[hb] at D;simp at D;omega
  have I:=fH hb;clear hb D;go_in;go_wp2_with fail;refine mb (iH s _ _ J (by omega)) ?_;rintro O z;go_wp2_with fail;refine mb (gO _ _ _ (by omega) I) ?_;rintro H rfl;go_wp2_with fail;refine bodyPost_ret (gw rfl _ _ _) rfl ?_;exact jl.no K z
theorem wZ (s:BA)(w:World)(D:Gl w)(z:s.size<=64):Calls prog 161 #[.string s] w (jl (mg (bl s)) w):=by
 cases hk:Gy s ⟨#[58]⟩
 ·exact vV s w D z hk
 ·by_cases F:rx (bl (nx s ⟨#[58]⟩))=true/\(nx s ⟨#[58]⟩).size<=9
  ·exact vW s _ _ w D z hk rfl rfl F.1 F.2
  ·exact vX s _ w D z hk rfl F
def xd (r:Option (LU×LU×LU))(w:World)(e:Ending)(w':World):Prop:=
 ∃ (ep pr rv:BA) (c:Int),e=.returned (.tuple #[.string ep,.string pr,.string rv,.int .i64 c])/\(match r with | some (a,b,d)=>c=0/\bl ep=a/\bl pr=b/\bl rv=d | none=>c=3/\ep=⟨#[]⟩/\pr=⟨#[]⟩/\rv=⟨#[]⟩)/\Bw w w'
theorem vY (s:BA)(w:World)(H:Gl w)(K:s.size<=64):Calls prog 108 #[.int .i64 1,.string s] w (xd (mg (bl s)) w):=by
 have J:=fH H;clear H;go_in;go_wp2_with fail;refine(wZ s _ J K).mono ?_;rintro e R ⟨I,O,M,ok,rfl,F,V,U,X,z⟩;have D:=fH F;clear F;cases ok
 ·go_wp2_with fail;refine bodyPost_ret (gw rfl _ _ _) rfl ?_;exact⟨⟨#[]⟩,⟨#[]⟩,⟨#[]⟩,3,rfl,by rw[D.out];exact⟨rfl,rfl,rfl,rfl⟩,z⟩
 ·go_wp2_with fail;refine bodyPost_ret (gw rfl _ _ _) rfl ?_;exact⟨I,O,M,0,rfl,by rw[D.out];exact⟨rfl,rfl,rfl,rfl⟩,z⟩
theorem Mc (s:BA)(c:UInt8)(h:(bl s).contains c=false):JT s c=-1:=by
 have z:=nP s c h;have D:=Lib.indexByte_ge (bl s) c;unfold JT at *;omega
theorem Ch {T E:TypeId}{sz:Nat}(F:prog.underlying T=some (.slice (prog.elem T)))(z:prog.elem T=E)(H:∀ w,(sizeOf E).run prog w=.ok sz w)
  {A:OA}{n c b off:Nat}{i:Int}(J:i=k)(I:A=some ⟨b,off,none⟩)(D:k<n)(w:World):(Instr.indexAt T (.slice A n c) (.int .i64 i)).run prog w=.ok (.pointer (some ⟨b,off+k*sz,none⟩)) w:=by
 subst J;exact gi F z H I D w
def jJ:LU->Bool
 | a::_::_=>a==48
 | _=>false
theorem GJ (s:BA)(h:¬ 1<s.size):jJ (bl s)=false:=by
 have z:=fI s;cases hb:bl s with
 | nil=>rfl
 | cons a r=>cases r with
  | nil=>rfl
  | cons b r=>rw[hb] at z;simp at z;omega
theorem J3 (s:BA)(h:1<s.size):jJ (bl s)=(s[0]==48):=by
 have z:=fI s;have D:=mL s (by omega);cases hb:(bl s).tail with
 | nil=>rw[D,hb] at z;simp at z;omega
 | cons b r=>rw[D,hb];rfl
theorem ade (a:UInt8):(((a.toNat:Nat):Int)==48)=(a==48):=by
 rw[bI];simp[<-UInt8.toNat_inj];omega
theorem qu (s:BA)(w:World)(D:s.size<=9223372036854775807):Calls prog 215 #[.string s] w fun e w'=>e=.returned (.bool (jJ (bl s)))/\w=w':=by
 by_cases h:1<s.size
 ·have F:0<s.size:=by omega
  have z:=fH (J3 s h);go_in;go_wp2;go_ret;exact⟨fJ (by rw[z.out,ade]),rfl⟩
 ·have z:=fH (GJ s h);go_in;go_wp2;go_ret;exact⟨fJ z.out.symm,rfl⟩
theorem mq (s:BA)(b:Bool)(w:World)(z:s.size<=9223372036854775807)(h:Hid (jJ (bl s)=b)):Calls prog 215 #[.string s] w fun e w'=>e=.returned (.bool b)/\w=w':=by rw[<-h.out];exact qu s w z
def rO:LU:=[46,95,43,126,94]
def nT (l:LU):Option (LU×LU):=
 if (Lib.cut l [58]).2.2=true then (if rx (Lib.cut l [58]).1=true/\(Lib.cut l [58]).1.length<=9/\jJ (Lib.cut l [58]).1=false then some ((Lib.cut l [58]).1,(Lib.cut l [58]).2.1) else none) else some ([],l)
def qZ (p:LU):Option (LU×LU):=
 if (iq rO (Lib.cut p [45]).1&&iq rO (Lib.cut p [45]).2.1)=true then some ((Lib.cut p [45]).1,(Lib.cut p [45]).2.1) else none
def mi (l:LU):Option (LU×LU×LU):=
 match nT l with
 | none=>none
 | some (ep,p)=>(qZ p).map fun r=>(ep,r.1,r.2)
theorem rK (ep p:LU)(a b:Bool)(z:iq rO (Lib.cut p [45]).1=a)(D:iq rO (Lib.cut p [45]).2.1=b):
  (qZ p).map (fun r=>(ep,r.1,r.2))=if (a&&b)=true then some (ep,(Lib.cut p [45]).1,(Lib.cut p [45]).2.1) else none:=by
 unfold qZ;rw[z,D];split<;>rfl
theorem xg (s:BA)(w:World)(V:Gl w)(hs:s.size<=64)(Y:Gy s ⟨#[58]⟩=false):Calls prog 162 #[.string s] w (jl (mi (bl s)) w):=by
 have J:=fH V;clear V;have M:Hid (mi (bl s)=(qZ (bl s)).map fun r=>([],r.1,r.2)):=by
  show _=_;unfold mi nT;rw[show(Lib.cut (bl s) [58]).2.2=false from Y];rfl
 have z1:=wS s ⟨#[45]⟩;have Z:=Cd s ⟨#[45]⟩;cases ha:iq rO (bl (nx s ⟨#[45]⟩))
 ·have I:=fH ha;clear ha;go_in;go_wp2_with fail;refine mb (iH s ⟨#[58]⟩ _ J (by omega)) ?_;rintro O z;go_wp2_with fail;refine mb (iH s ⟨#[45]⟩ _ (by exact J.below z) (by omega)) ?_;rintro U D;go_wp2_with fail;refine mb (gp (nx s ⟨#[45]⟩) ⟨#[46,95,43,126,94]⟩ false _ (by omega) (by exact I)) ?_;rintro R F;go_wp2_with fail;refine bodyPost_ret (gw rfl _ _ _) rfl ?_;exact⟨⟨#[]⟩,nx s ⟨#[45]⟩,qp s ⟨#[45]⟩,false,rfl,by rw[M.out,rK _ _ false (iq rO (bl (qp s ⟨#[45]⟩))) (by rw[<-I.out,li];rfl) (by rw[mM];rfl)];rfl,by decide,by omega,by omega,fM (fM z D) F⟩
 ·have I:=fH ha;clear ha;cases hb:iq rO (bl (qp s ⟨#[45]⟩))
  ·have K:=fH hb;clear hb;go_in;go_wp2_with fail;refine mb (iH s ⟨#[58]⟩ _ J (by omega)) ?_;rintro O z;go_wp2_with fail;refine mb (iH s ⟨#[45]⟩ _ (by exact J.below z) (by omega)) ?_;rintro U D;go_wp2_with fail;refine mb (gp (nx s ⟨#[45]⟩) ⟨#[46,95,43,126,94]⟩ true _ (by omega) (by exact I)) ?_;rintro R F;go_wp2_with fail;refine mb (gp (qp s ⟨#[45]⟩) ⟨#[46,95,43,126,94]⟩ false _ (by omega) (by exact K)) ?_;rintro X H;go_wp2_with fail;refine bodyPost_ret (gw rfl _ _ _) rfl ?_;exact⟨⟨#[]⟩,nx s ⟨#[45]⟩,qp s ⟨#[45]⟩,false,rfl,by rw[M.out,rK _ _ true false (by rw[<-I.out,li];rfl) (by rw[<-K.out,mM];rfl)];rfl,by decide,by omega,by omega,fM (fM (fM z D) F) H⟩
  ·have K:=fH hb;clear hb;go_in;go_wp2_with fail;refine mb (iH s ⟨#[58]⟩ _ J (by omega)) ?_;rintro O z;go_wp2_with fail;refine mb (iH s ⟨#[45]⟩ _ (by exact J.below z) (by omega)) ?_;rintro U D;go_wp2_with fail;refine mb (gp (nx s ⟨#[45]⟩) ⟨#[46,95,43,126,94]⟩ true _ (by omega) (by exact I)) ?_;rintro R F;go_wp2_with fail;refine mb (gp (qp s ⟨#[45]⟩) ⟨#[46,95,43,126,94]⟩ true _ (by omega) (by exact K)) ?_;rintro X H;go_wp2_with fail;refine bodyPost_ret (gw rfl _ _ _) rfl ?_;exact⟨⟨#[]⟩,nx s ⟨#[45]⟩,qp s ⟨#[45]⟩,true,rfl,by rw[M.out,rK _ _ true true (by rw[<-I.out,li];rfl) (by rw[<-K.out,mM];rfl)];simp only[Bool.and_self,if_true,li,mM];rfl,by decide,by omega,by omega,fM (fM (fM z D) F) H⟩
theorem xi (s t u:BA)(w:World)(hG:Gl w)(hs:s.size<=64)(hk:Gy s ⟨#[58]⟩=true)(ht:t=qp s ⟨#[58]⟩)(V:u=nx s ⟨#[58]⟩)
  (X:rx (bl u)=true)(hl:u.size<=9)(O:jJ (bl u)=false):Calls prog 162 #[.string s] w (jl (mi (bl s)) w):=by
 have K:=fH hG;clear hG;have Y:Hid (mi (bl s)=(qZ (bl t)).map fun r=>(bl u,r.1,r.2)):=by
  show _=_;unfold mi nT;have e1:bl u=(Lib.cut (bl s) [58]).1:=by rw[V,li];rfl
  have e2:bl t=(Lib.cut (bl s) [58]).2.1:=by rw[ht,mM];rfl
  rw[show(Lib.cut (bl s) [58]).2.2=true from hk,if_pos rfl,<-e1,<-e2,if_pos ⟨X,by rw[fI];exact hl,O⟩]
 have ac:t.size<=64:=by have:=Cd s ⟨#[58]⟩;rw[ht];omega
 have U:=fH X;have R:=fH O;clear X O;have ab:=ht.symm;have aa:=V.symm;clear ht V;have z1:=wS t ⟨#[45]⟩;have z2:=Cd t ⟨#[45]⟩;cases ha:iq rO (bl (nx t ⟨#[45]⟩))
 ·have I:=fH ha;clear ha;go_in;go_wp2_with fail;refine mb (iH s ⟨#[58]⟩ _ K (by omega)) ?_;rintro Z z;go_wp2_with fail;refine mb (gO _ _ _ (by omega) U) ?_;rintro F rfl;go_wp2_with fail;refine mb (mq _ _ _ (by omega) R) ?_;rintro F rfl;go_wp2_with fail;refine mb (iH t ⟨#[45]⟩ _ (by exact K.below z) (by omega)) ?_;rintro w2 D;go_wp2_with fail;refine mb (gp (nx t ⟨#[45]⟩) ⟨#[46,95,43,126,94]⟩ false _ (by omega) (by exact I)) ?_;rintro w3 H;go_wp2_with fail;refine bodyPost_ret (gw rfl _ _ _) rfl ?_;exact⟨u,nx t ⟨#[45]⟩,qp t ⟨#[45]⟩,false,rfl,by rw[Y.out,rK _ _ false (iq rO (bl (qp t ⟨#[45]⟩))) (by rw[<-I.out,li];rfl) (by rw[mM];rfl)];rfl,by omega,by omega,by omega,fM (fM z D) H⟩
 ·have I:=fH ha;clear ha;cases hb:iq rO (bl (qp t ⟨#[45]⟩))
  ·have M:=fH hb;clear hb;go_in;go_wp2_with fail;refine mb (iH s ⟨#[58]⟩ _ K (by omega)) ?_;rintro Z z;go_wp2_with fail;refine mb (gO _ _ _ (by omega) U) ?_;rintro F rfl;go_wp2_with fail;refine mb (mq _ _ _ (by omega) R) ?_;rintro F rfl;go_wp2_with fail;refine mb (iH t ⟨#[45]⟩ _ (by exact K.below z) (by omega)) ?_;rintro w2 D;go_wp2_with fail;refine mb (gp (nx t ⟨#[45]⟩) ⟨#[46,95,43,126,94]⟩ true _ (by omega) (by exact I)) ?_;rintro w3 H;go_wp2_with fail;refine mb (gp (qp t ⟨#[45]⟩) ⟨#[46,95,43,126,94]⟩ false _ (by omega) (by exact M)) ?_;rintro w4 J;go_wp2_with fail;refine bodyPost_ret (gw rfl _ _ _) rfl ?_;exact⟨u,nx t ⟨#[45]⟩,qp t ⟨#[45]⟩,false,rfl,by rw[Y.out,rK _ _ true false (by rw[<-I.out,li];rfl) (by rw[<-M.out,mM];rfl)];rfl,by omega,by omega,by omega,fM (fM (fM z D) H) J⟩
  ·have M:=fH hb;clear hb;go_in;go_wp2_with fail;refine mb (iH s ⟨#[58]⟩ _ K (by omega)) ?_;rintro Z z;go_wp2_with fail;refine mb (gO _ _ _ (by omega) U) ?_;rintro F rfl;go_wp2_with fail;refine mb (mq _ _ _ (by omega) R) ?_;rintro F rfl;go_wp2_with fail;refine mb (iH t ⟨#[45]⟩ _ (by exact K.below z) (by omega)) ?_;rintro w2 D;go_wp2_with fail;refine mb (gp (nx t ⟨#[45]⟩) ⟨#[46,95,43,126,94]⟩ true _ (by omega) (by exact I)) ?_;rintro w3 H;go_wp2_with fail;refine mb (gp (qp t ⟨#[45]⟩) ⟨#[46,95,43,126,94]⟩ true _ (by omega) (by exact M)) ?_;rintro w4 J;go_wp2_with fail;refine bodyPost_ret (gw rfl _ _ _) rfl ?_;exact⟨u,nx t ⟨#[45]⟩,qp t ⟨#[45]⟩,true,rfl,by rw[Y.out,rK _ _ true true (by rw[<-I.out,li];rfl) (by rw[<-M.out,mM];rfl)];simp only[Bool.and_self,if_true,li,mM];rfl,by omega,by omega,by omega,fM (fM (fM z D) H) J⟩
theorem xj (s u:BA)(w:World)(R:Gl w)(hs:s.size<=64)(U:Gy s ⟨#[58]⟩=true)(I:u=nx s ⟨#[58]⟩)
  (H:¬ (rx (bl u)=true/\u.size<=9/\jJ (bl u)=false)):Calls prog 162 #[.string s] w (jl (mi (bl s)) w):=by
 have J:=fH R;clear R;have K:Hid (mi (bl s)=none):=by
  show _=_;unfold mi nT;have V:bl u=(Lib.cut (bl s) [58]).1:=by rw[I,li];rfl
  rw[show(Lib.cut (bl s) [58]).2.2=true from U,if_pos rfl,<-V,if_neg (by rw[fI];exact H)]
 have Z:u.size<=64:=by have:=wS s ⟨#[58]⟩;rw[I];omega
 have aa:=I.symm;clear I;cases hb:rx (bl u)
 ·have F:=fH hb;clear hb H;go_in;go_wp2_with fail;refine mb (iH s ⟨#[58]⟩ _ J (by omega)) ?_;rintro M z;go_wp2_with fail;refine mb (gO _ _ _ (by omega) F) ?_;rintro D rfl;go_wp2_with fail;refine bodyPost_ret (gw rfl _ _ _) rfl ?_;exact jl.no K z
 ·by_cases Y:u.size<=9
  ·have O:jJ (bl u)=true:=by cases h:jJ (bl u) with | true=>rfl | false=>exact absurd ⟨hb,Y,h⟩ H
   have F:=fH hb;have X:=fH O;clear hb H O;go_in;go_wp2_with fail;refine mb (iH s ⟨#[58]⟩ _ J (by omega)) ?_;rintro M z;go_wp2_with fail;refine mb (gO _ _ _ (by omega) F) ?_;rintro D rfl;go_wp2_with fail;refine mb (mq _ _ _ (by omega) X) ?_;rintro D rfl;go_wp2_with fail;refine bodyPost_ret (gw rfl _ _ _) rfl ?_;exact jl.no K z
  ·have F:=fH hb;clear hb H;go_in;go_wp2_with fail;refine mb (iH s ⟨#[58]⟩ _ J (by omega)) ?_;rintro M z;go_wp2_with fail;refine mb (gO _ _ _ (by omega) F) ?_;rintro D rfl;go_wp2_with fail;refine bodyPost_ret (gw rfl _ _ _) rfl ?_;exact jl.no K z
theorem yR (s:BA)(w:World)(F:Gl w)(D:s.size<=64):Calls prog 162 #[.string s] w (jl (mi (bl s)) w):=by
 cases hk:Gy s ⟨#[58]⟩
 ·exact xg s w F D hk
 ·by_cases z:rx (bl (nx s ⟨#[58]⟩))=true/\(nx s ⟨#[58]⟩).size<=9/\jJ (bl (nx s ⟨#[58]⟩))=false
  ·exact xi s _ _ w F D hk rfl rfl z.1 z.2.1 z.2.2
  ·exact xj s _ w F D hk rfl z
theorem xm (s:BA)(w:World)(H:Gl w)(K:s.size<=64):Calls prog 108 #[.int .i64 2,.string s] w (xd (mi (bl s)) w):=by
 have J:=fH H;clear H;go_in;go_wp2_with fail;refine(yR s _ J K).mono ?_;rintro e R ⟨I,O,M,ok,rfl,F,V,U,X,z⟩;have D:=fH F;clear F;cases ok
 ·go_wp2_with fail;refine bodyPost_ret (gw rfl _ _ _) rfl ?_;exact⟨⟨#[]⟩,⟨#[]⟩,⟨#[]⟩,3,rfl,by rw[D.out];exact⟨rfl,rfl,rfl,rfl⟩,z⟩
 ·go_wp2_with fail;refine bodyPost_ret (gw rfl _ _ _) rfl ?_;exact⟨I,O,M,0,rfl,by rw[D.out];exact⟨rfl,rfl,rfl,rfl⟩,z⟩
structure Pc where
 kind:Int
 text:LU
 word:Int
def Pc.cells (x:Pc):LV:=[.int .i64 x.kind,.string ⟨x.text.toArray⟩,.int .i64 x.word]
theorem J4 (x:Pc):x.cells.length=3:=rfl
def J5:List (LU):=[[97,108,112,104,97],[98,101,116,97],[112,114,101],[114,99],[99,118,115],[115,118,110],[103,105,116],[104,103],[112]]
def GK:List (LU)->LU->Option Nat
 | [],_=>none
 | a::r,x=>if a=x then some 0 else (GK r x).map (· + 1)
def lK (l:LU):Option Nat:=GK J5 l
def lI:Nat->Int->List Pc->LU->Option (List Pc×LU)
 | 0,_,_,_=>none
 | k+1,kind,acc,l=>if fS gf l=0 then none else match l.drop (fS gf l) with
  | 46::r=>lI k 6 (acc++[⟨kind,l.take (fS gf l),0⟩]) r
  | r=>some (acc++[⟨kind,l.take (fS gf l),0⟩],r)
def mr (acc:List Pc)(l:LU):List Pc×LU:=match l with
 | c::r=>if it c=true then (acc++[⟨5,[c],0⟩],r) else (acc,l)
 | []=>(acc,[])
def km:Nat->List Pc->LU->Option (List Pc×LU)
 | 0,_,_=>none
 | k+1,acc,l=>match l with
  | 95::r=>match lK (r.take (fS it r)) with
   | none=>none
   | some wd=>km k (acc++[⟨if 4<=wd then 4 else 0,r.take (fS it r),wd⟩]++(if 0<fS gf (r.drop (fS it r)) then [⟨3,(r.drop (fS it r)).take (fS gf (r.drop (fS it r))),0⟩] else [])) ((r.drop (fS it r)).drop (fS gf (r.drop (fS it r))))
  | l=>some (acc,l)
def tF (l:LU)(acc:List Pc)(r:LU):Option (List Pc×LU×LU):=match r with
 | []=>some (acc++[⟨1,[],0⟩],l,[])
 | 45::114::t=>if rx t=true then some (acc++[⟨2,t,0⟩]++[⟨1,[],0⟩],l.take (l.length-r.length),t) else none
 | _=>none
def rz (l:LU):Option (List Pc×LU×LU):=match lI (l.length+1) 7 [] l with
 | none=>none
 | some (a,r)=>match km ((mr a r).2.length+1) (mr a r).1 (mr a r).2 with
  | none=>none
  | some (b,t)=>tF l b t
structure Gv (w wr:World) (ps:List Pc) (r:BA):Prop where
 lcell:∃ A c,wr.cell? ⟨w.heap.size,0,none⟩=some (.slice A ps.length c)/\wr.ownsRow (w.heap.size+2) 310 3 (.slice A ps.length c) ps.length (ps.flatMap Pc.cells)
 lfree:wr.frozen? ⟨w.heap.size,0,none⟩=false
 rcell:wr.cell? ⟨w.heap.size+1,0,none⟩=some (.string r)
 rfree:wr.frozen? ⟨w.heap.size+1,0,none⟩=false
 bel:Bw w wr
 sz:w.heap.size+2<=wr.heap.size
theorem qv:(prog.info? 310).map (fun i=>(i.zero,i.size,i.bytes))=some (some (.agg #[.int .i64 0,.string ⟨#[]⟩,.int .i64 0]),3,32):=by kernel_rfl
theorem oH (w:World)(t:TypeId)(x y z:Value):nE (w.alloc (.cells #[x,y,z] t)).drew (w.heap.size+1) 3 (some ⟨w.heap.size,0,none⟩) 1 [x,y,z]:=by
 refine⟨rfl,fun _=>⟨_,rfl,by simp,fun j u D=>?_⟩⟩
 match j,D with
 | 0,D=>simp at D;subst D;simp[Addr.add]
 | 1,D=>simp at D;subst D;simp[Addr.add]
 | 2,D=>simp at D;subst D;simp[Addr.add]
 | j+3,D=>simp at D
theorem Gv.setRest {wr:World}{ps:List Pc}{r:BA}(h:Gv w wr ps r)(t:BA):Gv w (wr.setCell ⟨w.heap.size+1,0,none⟩ (.string t)) ps t:=by
 obtain⟨⟨A,c,K,I⟩,R,J,O,D,M⟩:=h;have z:wr.grownBy (wr.setCell ⟨w.heap.size+1,0,none⟩ (.string t)) (some (w.heap.size+1)):=fX (World.grownBy.refl wr (some (w.heap.size+1))) (.inl rfl) _;refine⟨⟨A,c,z.cell K (by simp),I.kept z ?_⟩,?_,?_,?_,D.grown z D.size (fun j H=>by injection H with H;omega),Nat.le_trans M z.size⟩
 ·cases hq:(Value.slice A ps.length c).ownBlock with
  | none=>exact .inl rfl
  | some q=>right;intro F;injection F with F;have:=(I.lt q hq).1;omega
 ·rw[World.frozen?_setCell];exact R
 ·exact World.cell?_setCell_same' _ _ _ (by rw[J];rfl)
 ·rw[World.frozen?_setCell];exact O
theorem ph (w:World)(z:Int)(n:Nat)(D:List Pc)(r:BA)(wr:World)(hn:n<=r.size)(_:r.size<=64)(ah:D.length<=1000)(hP:Gv w wr D r):Calls prog 216 #[.int .i64 z,.int .i64 n,.pointer (some ⟨w.heap.size,0,none⟩),.pointer (some ⟨w.heap.size+1,0,none⟩)] wr fun e w'=>e=.returned (.tuple #[])/\Gv w w' (D++[⟨z,(bl r).take n,0⟩]) (r.extract n r.size):=by
 obtain⟨i0,ae,X,aa,ac⟩:=info_parts qv;obtain⟨⟨A,c,h1,h2⟩,h3,h4,h5,h6,h7⟩:=hP;have U:=fH h2;have HB:=fH h6;clear h2 h6;have NL:Hid (some w.heap.size≠(Value.slice A D.length c).ownBlock):=by intro I;have:=(U.lt _ I.symm).1;omega
 have NR:Hid (some (w.heap.size+1)≠(Value.slice A D.length c).ownBlock):=by intro I;have:=(U.lt _ I.symm).1;omega
 have i1:(n:Int)<=(r.size:Int):=by omega
 have J:w.heap.size<wr.heap.size:=by omega
 have K:w.heap.size+1<wr.heap.size:=by omega
 go_in;go_wp2_with fail;have ag:¬ w.heap.size=wr.heap.size:=by omega
 have af:¬ w.heap.size+1=wr.heap.size:=by omega
 have CL:Hid ((wr.alloc (.cells #[.int .i64 z,.string (r.extract 0 n),.int .i64 0] 310)).drew.cell? ⟨w.heap.size,0,none⟩=some (.slice A D.length c)):=(World.cell?_alloc_lt wr _ ⟨w.heap.size,0,none⟩ J).trans h1;have FL:Hid ((wr.alloc (.cells #[.int .i64 z,.string (r.extract 0 n),.int .i64 0] 310)).drew.frozen? ⟨w.heap.size,0,none⟩=false):=((bR.alloc lr _).frozen (p:=⟨w.heap.size,0,none⟩) J).trans h3;have CR:Hid ((wr.alloc (.cells #[.int .i64 z,.string (r.extract 0 n),.int .i64 0] 310)).drew.cell? ⟨w.heap.size+1,0,none⟩=some (.string r)):=(World.cell?_alloc_lt wr _ ⟨w.heap.size+1,0,none⟩ K).trans h4;have FR:Hid ((wr.alloc (.cells #[.int .i64 z,.string (r.extract 0 n),.int .i64 0] 310)).drew.frozen? ⟨w.heap.size+1,0,none⟩=false):=((bR.alloc lr _).frozen (p:=⟨w.heap.size+1,0,none⟩) K).trans h5
 go_region_law
  ((refine iF _ (by rfl) _ _ _ (by rfl) (w.heap.size+2) 310 i0 _ 3 32 underlying256 ae X aa ac rfl (by omega) (.slice A D.length c) D.length _ (by rfl) ((U.alloc _).drew)
     (wr.heap.size+1) (some ⟨wr.heap.size,0,none⟩) 1 1 [.int .i64 z,.string (r.extract 0 n),.int .i64 0] (by rfl) (oH wr _ _ _ _) (by simp[Value.oneCell']) (by unfold maxLen;omega) (by omega) (by simp;omega) ?_
    intro v1 F o2 H a2;obtain⟨O,R,rfl⟩:=gg o2;have ab:F.cell? ⟨w.heap.size,0,none⟩=some (.slice A D.length c):=H.cell CL NL.out;have Y:F.frozen? ⟨w.heap.size,0,none⟩=false:=(World.frozen?_of_block (a:=⟨w.heap.size,0,none⟩) (H.block w.heap.size (by simp;omega) NL)).trans FL.out;have ad:F.cell? ⟨w.heap.size+1,0,none⟩=some (.string r):=H.cell CR NR.out;have Z:F.frozen? ⟨w.heap.size+1,0,none⟩=false:=(World.frozen?_of_block (a:=⟨w.heap.size+1,0,none⟩) (H.block (w.heap.size+1) (by simp;omega) NR)).trans FR.out))
 all_goals
  go_wp2_with fail;have P1:Gv w (F.setCell ⟨w.heap.size,0,none⟩ (.slice O (D.length+1) R)) (D++[⟨z,(bl r).take n,0⟩]) r:=by
   have M:F.grownBy (F.setCell ⟨w.heap.size,0,none⟩ (.slice O (D.length+1) R)) (some w.heap.size):=fX (World.grownBy.refl F (some w.heap.size)) (.inl rfl) _;have e1:(D++[(⟨z,(bl r).take n,0⟩:Pc)]).length=D.length+1:=by simp
   have e2:(D++[(⟨z,(bl r).take n,0⟩:Pc)]).flatMap Pc.cells=D.flatMap Pc.cells++[.int .i64 z,.string (r.extract 0 n),.int .i64 0]:=by
    rw[List.flatMap_append];congr 1;simp only[List.flatMap_cons,List.flatMap_nil,List.append_nil,Pc.cells];rw[show(⟨((bl r).take n).toArray⟩:BA)=r.extract 0 n from by apply kG;rw[nj,jp]]
   have b2:Bw w F:=(gh (HB.alloc HB.size _) 1).grown H (by simp;omega) (fun j V=>by have:=(U.lt j V).1;omega);refine⟨⟨O,R,by rw[e1];exact World.cell?_setCell_same' _ _ _ (by rw[ab];rfl),?_⟩,by rw[World.frozen?_setCell];exact Y,M.cell ad (by simp),by rw[World.frozen?_setCell];exact Z,b2.grown M b2.size (fun j V=>by injection V with V;omega),?_⟩
   ·rw[e1,e2];refine o2.kept M ?_;cases hq:(Value.slice O (D.length+1) R).ownBlock with
    | none=>exact .inl rfl
    | some q=>right;intro I;injection I with I;have:=(o2.lt q hq).1;omega
   ·have z1:=H.size;have z2:=M.size;simp at z1;omega
  go_end0;exact⟨rfl,P1.setRest _⟩
theorem Md (x:LU):∀ (l:List (LU))(k:Nat),(∀ j,j<k->l[j]?≠some x)->l[k]?=some x->GK l x=some k
 | [],k,_,h=>by simp at h
 | a::r,0,_,h=>by simp at h;simp[GK,h]
 | a::r,k+1,hn,h=>by
  have z:a≠x:=fun e=>hn 0 (by omega) (by simp[e]);have:=Md x r k (fun j D=>by simpa using hn (j+1) (by omega)) (by simpa using h);simp[GK,z,this]
theorem Ij (x:LU):∀ (l:List (LU)),(∀ j:Nat,l[j]?≠some x)->GK l x=none
 | [],_=>rfl
 | a::r,hn=>by
  have z:a≠x:=fun e=>hn 0 (by simp[e]);have:=Ij x r (fun j=>by simpa using hn (j+1));simp[GK,z,this]
theorem yS (j:Nat)(h:j<9):J5[j]?=some (bl (jO j)):=by
 rcases(by omega:j=0\/j=1\/j=2\/j=3\/j=4\/j=5\/j=6\/j=7\/j=8) with rfl | rfl | rfl | rfl | rfl | rfl | rfl | rfl | rfl<;>rfl
theorem Pn (D:k<9)(F:∀ j,j<k->¬ jO j=s)(h:jO k=s):lK (bl s)=some k:=
 Md _ _ k (fun j z=>by rw[yS j (by omega)];intro e;injection e with e;exact F j z (kG e)) (by rw[yS k D,h])
theorem Me (D:∀ j,j<9->¬ jO j=s):lK (bl s)=none:=
 Ij _ _ (fun j=>by
  by_cases z:j<9
  ·rw[yS j z];intro e;injection e with e;exact D j z (kG e)
  ·rw[List.getElem?_eq_none (by simp[J5];omega)];simp)
def wIx (s:BA):Int:=match lK (bl s) with | some i=>i | none=>-1
theorem ady (k:Nat)(z:k<9)(x:Nat->BA)(w:World):(Instr.index 354 (.agg #[.string (x 0),.string (x 1),.string (x 2),.string (x 3),.string (x 4),.string (x 5),.string (x 6),.string (x 7),.string (x 8)]) (.int .i64 k)).run prog w=.ok (.string (x k)) w:=by
 rcases(by omega:k=0\/k=1\/k=2\/k=3\/k=4\/k=5\/k=6\/k=7\/k=8) with rfl | rfl | rfl | rfl | rfl | rfl | rfl | rfl | rfl<;>kernel_rfl
theorem Da (s:BA)(w:World)(z:Gl w):Calls prog 219 #[.string s] w fun e w'=>e=.returned (.int .i64 (wIx s))/\w=w':=by
 have O:=z.vwd 0 (by omega);have X:=z.vwd 1 (by omega);have M:=z.vwd 2 (by omega);have g3:=z.vwd 3 (by omega);have V:=z.vwd 4 (by omega);have Y:=z.vwd 5 (by omega);have K:=z.vwd 6 (by omega);have R:=z.vwd 7 (by omega);have U:=z.vwd 8 (by omega);clear z;go_in;go_wp2_with fail;clear O X M g3 V Y K R U;go_loop [6] (fun i=>∃ k:Nat,k<=9/\i=.int .i64 k/\Hid (∀ j,j<k->¬ jO j=s)) (fun i=>9-(intOf i).toNat)
 case atStart=>exact⟨0,by omega,rfl,fH (fun j I=>by omega)⟩
 case round=>
  obtain⟨k,hk,rfl,H⟩:=hrel;by_cases D:k<9
  ·have J:=fun W=>ady k D jO W;cases hE:((jO k).toList==s.toList)
   ·have F:Hid (¬ jO k=s):=by show ¬ _;rw[kY] at hE;exact of_decide_eq_false hE
    go_wp2;go_round
    case rel=>exact⟨k+1,by omega,by go_num,fH (fun j I=>by
     by_cases e:j=k
     ·subst e;exact F.out
     ·exact H.out j (by omega))⟩
    case measure=>simp[intOf];omega
   ·have Z:Hid (jO k=s):=by show _=_;rw[kY] at hE;exact dO hE
    go_wp2;go_ret;exact⟨fT (by unfold wIx;rw[Pn D H.out Z.out]),rfl⟩
  ·go_wp2;go_ret;exact⟨fT (by unfold wIx;rw[Me (fun j I=>H.out j (by omega))]),rfl⟩
def yT (s:BA):BA:=⟨((nQ (bl s)).getD []).toArray⟩
def Uc (s:BA):Bool:=(nQ (bl s)).isSome
def Ud (s:BA):Value:=.tuple #[.string (yT s),.bool (Uc s)]
theorem Ik (h:nQ (bl s)=none):Ud s=.tuple #[.string ⟨#[]⟩,.bool false]:=by simp[Ud,yT,Uc,h]
theorem Ue {i:Nat}(h:nQ (bl s)=some ((bl s).take i)):Ud s=.tuple #[.string (s.extract 0 i),.bool true]:=by
 simp only[Ud,yT,Uc,h,Option.getD_some,Option.isSome_some];congr 3;apply congrArg;apply kG;rw[nj,jp]
theorem J8 (s:BA)(w:World)(K:Gl w)(M:s.size<=4294967280):Calls prog 114 #[.string s] w fun e w'=>e=.returned (Ud s)/\Bw w w':=by
 have I:=fH K;cases hl:ll 47 (bl s) with
 | none=>
  have E:Hid (nQ (bl s)=none):=by show _=_;unfold nQ;rw[hl];simp
  have z:=fH hl;go_in;go_wp2_with fail;refine mb (kx s 47 _ (by omega) z) ?_;rintro w' rfl;go_wp2;go_ret2;exact⟨by rw[Ik E.out];rfl,bR⟩
 | some i=>
  have O:i<s.size:=by have:=wR _ _ _ hl;rw[fI] at this;exact this
  cases hp:qr (bl s)
  ·have E:Hid (nQ (bl s)=none):=by show _=_;unfold nQ;rw[hp];rfl
   have z:=fH hl;have H:=fH hp;go_in;go_wp2_with fail;refine mb (iQ s 47 i _ (by omega) z) ?_;rintro w' rfl;go_wp2_with fail;refine mb (vU s _ I (by omega)) ?_;rintro J F;rw[H.out];have D:=fH F;go_wp2;go_ret2;exact⟨by rw[Ik E.out];rfl,D⟩
  ·have E:Hid (nQ (bl s)=some ((bl s).take i)):=by show _=_;unfold nQ;rw[hp,hl];rfl
   have z:=fH hl;have H:=fH hp;go_in;go_wp2_with fail;refine mb (iQ s 47 i _ (by omega) z) ?_;rintro w' rfl;go_wp2_with fail;refine mb (vU s _ I (by omega)) ?_;rintro J F;rw[H.out];have D:=fH F;go_wp2;go_ret2;exact⟨by rw[Ue E.out];rfl,D⟩
theorem Xl :∀ (l:LU)(k:Nat),(l.take k).contains c=false->l[k]?=some c->Lib.cut l [c]=(l.take k,l.drop (k+1),true):=by
 intro l k D z;have J:k<l.length:=(gS z).1;have I:Lib.indexByte l c=k:=by
  have key:∀ (l:LU)(k:Nat),(l.take k).contains c=false->l[k]?=some c->Lib.indexByte l c=k:=by
   intro l
   induction l with
   | nil=>intro k _ h;simp at h
   | cons b r ih=>
    intro k D z;cases k with
    | zero=>simp at z;subst z;simp[Lib.indexByte]
    | succ k=>
     simp at z;rw[List.take_succ_cons,List.contains_cons,Bool.or_eq_false_iff] at D;have H:(b==c)=false:=by have:=D.1;simp at this |-;exact fun e=>this e.symm
     have F:=ih k D.2 z;simp only[Lib.indexByte,H,F];rw[if_neg (by simp),if_neg (by simp;try omega)];omega
  exact key l k D z
 unfold Lib.cut;rw[Lib.index_one,I];simp
theorem Mf (l:LU)(h:l.contains c=false):Lib.cut l [c]=(l,[],false):=by
 have D:Lib.indexByte l c=-1:=by
  have z:=Mc ⟨l.toArray⟩ c (by simpa [bl] using h);simpa [JT,bl] using z
 unfold Lib.cut;rw[Lib.index_one,D];simp
end
section
open Go.RowKit Go.Deep
theorem acb {B:Nat}{w1 w2:World}(z:Below B w w1)(D:Bw w1 w2)(h:B<=w1.heap.size:=by exact Nat.le_trans (by assumption) (Below.size (by assumption))):Below B w w2:=z.trans (D.mono h)
theorem xE (s:BA)(j:Nat)(b:UInt8)(h:(bl s)[j]?=some b):s.get! j=b:=by
 unfold bl at h;show s.data[j]! = b;have F:s.data[j]?=some b:=by simpa using h
 obtain⟨z,D⟩:=Array.getElem?_eq_some_iff.1 F;rw[getElem!_pos s.data j z,D]
theorem PC (s:BA)(i:Nat)(h:i<s.size)(U:¬ (s[i]'h).toNat<128):
  (128<=(Utf8.decode s i).1/\(Utf8.decode s i).1<=1114111)/\(1<=(Utf8.decode s i).2/\i+(Utf8.decode s i).2<=s.size)/\∀ (j:Nat)(b:UInt8),i<=j->j<i+(Utf8.decode s i).2->(bl s)[j]?=some b->128<=b.toNat:=by
 have H:=xE s i _ (pN s i h);rw[Lib.decode_at,H];have l1:=(s.get! (i+1)).toNat_lt;have l2:=(s.get! (i+2)).toNat_lt;have Z:=(s.get! (i+3)).toNat_lt;have l0:=(s[i]'h).toNat_lt;have O:∀ b,(bl s)[i+1]?=some b->b.toNat=(s.get! (i+1)).toNat:=fun b z=>by rw[xE s _ b z]
 have I:∀ b,(bl s)[i+2]?=some b->b.toNat=(s.get! (i+2)).toNat:=fun b z=>by rw[xE s _ b z]
 have V:∀ b,(bl s)[i+3]?=some b->b.toNat=(s.get! (i+3)).toNat:=fun b z=>by rw[xE s _ b z]
 have K:∀ b,(bl s)[i]?=some b->b.toNat=(s[i]'h).toNat:=fun b z=>by rw[pN s i h] at z;injection z with z;rw[z]
 generalize (s.get! (i+1)).toNat=b1 at *;generalize (s.get! (i+2)).toNat=b2 at *;generalize (s.get! (i+3)).toNat=b3 at *;generalize (s[i]'h).toNat=b0 at *;unfold Lib.decodeN;rw[if_neg U];have key:∀ (r w:Nat),1<=w->w<=4->(1<w->128<=b1)->(2<w->128<=b2)->(3<w->128<=b3)->∀ (j:Nat)(b:UInt8),i<=j->j<i+w->(bl s)[j]?=some b->128<=b.toNat:=by
  intro r w Y X F R J j b D M z;obtain D | D | D | D:j=i\/j=i+1\/j=i+2\/j=i+3:=by omega
  ·subst D;rw[K b z];omega
  ·subst D;rw[O b z];exact F (by omega)
  ·subst D;rw[I b z];exact R (by omega)
  ·subst D;rw[V b z];exact J (by omega)
 repeat' split
 all_goals (refine⟨by simp only;omega,by simp only;omega,key 0 _ ?_ ?_ ?_ ?_ ?_⟩<;>(simp only;omega))
theorem PD (r:Int)(F:128<=r)(D:r<=1114111):2<=(Utf8.encode r).size/\(Utf8.encode r).size<=4/\∃ c:UInt8,(bl (Utf8.encode r))[(Utf8.encode r).size-1]?=some c/\128<=c.toNat:=by
 unfold Utf8.encode;have z:128<=(if Utf8.valid r then r.toNat else Utf8.runeError):=by
  split
  ·omega
  ·simp[Utf8.runeError]
 generalize (if Utf8.valid r then r.toNat else Utf8.runeError)=c at z;simp only;rw[if_neg (by omega)];have k:(UInt8.ofNat (128+c % 64)).toNat=128+c % 64:=by simp[UInt8.toNat_ofNat'];omega
 repeat' split
 all_goals exact⟨by simp[ByteArray.size],by simp[ByteArray.size],_,rfl,by rw[k];omega⟩
def oB:BA:=⟨#[60,61,62,126]⟩
theorem Dk:oB.size=4:=rfl
theorem xF (j:Nat)(b:UInt8)(h:(bl oB)[j]?=some b):b.toNat<128:=by
 have z:=gM h;simp[oB,bl] at z;rcases z with rfl | rfl | rfl | rfl<;>decide
theorem GS (w:World):Calls prog 203 #[.string oB,.int .i32 65533] w fun e w'=>e=.returned (.int .i64 (-1))/\Bw w w':=by
 go_in;go_wp2;go_loopg [5,6] 4 (fun g _ _ K=>∃ i:Nat,i+g=4/\K=w.iter oB i)
 case atStart=>exact⟨0,by omega,rfl⟩
 case round=>
  obtain⟨i,M,rfl⟩:=hrel;cases gk with
  | zero=>
   obtain rfl:i=4:=by omega
   have D:=fun H=>run_next_end (P:=prog) w oB 4 H (by rw[Dk];omega);go_wp2;go_ret;exact⟨rfl,bR.alloc lr _⟩
  | succ g=>
   have I:i<oB.size:=by rw[Dk];omega
   obtain⟨x,F⟩:∃ x:UInt8,oB[i]'I=x:=⟨_,rfl⟩
   have z:x.toNat<128:=xF i x (by rw[<-F];exact pN oB i I);have D:=fun H=>run_next_ascii (P:=prog) w oB i H I (by rw[F];exact z);rw[F] at D;clear F;have J:((x.toNat:Int)==65533)=false:=beq_eq_false_iff_ne.2 (by omega);go_wp2;go_roundg g
   case measure=>omega
   case rel=>exact⟨i+1,by omega,rfl⟩
theorem GU (r:Int)(w:World)(J:128<=r)(I:r<=1114111)(z:r≠65533)(H:Lib.validRune r=false):Calls prog 203 #[.string oB,.int .i32 r] w fun e w'=>e=.returned (.int .i64 (-1))/\Bw w w':=by
 have F:(r==65533)=false:=beq_eq_false_iff_ne.2 z;go_in;go_wp2_with (go_at_call 253;refine mb (Tryz.utf8_ValidRune _ _) ?_;rintro w' D;rw[D,H]);go_ret;exact⟨rfl,bR⟩
theorem Dl (r:Int)(w:World)(h0:128<=r)(h1:r<=1114111)(J:r≠65533)(hv:Lib.validRune r=true):Calls prog 203 #[.string oB,.int .i32 r] w fun e w'=>e=.returned (.int .i64 (-1))/\Bw w w':=by
 have ab:(r==65533)=false:=beq_eq_false_iff_ne.2 J;obtain⟨z0,z1,c,F,c0⟩:=PD r h0 h1;obtain⟨z,M⟩:∃ z,Utf8.encode r=z:=⟨_,rfl⟩
 rw[M] at z0 z1 F;obtain⟨m,hm⟩:∃ m,z.size=m+1:=⟨z.size-1,by omega⟩
 have I:m<z.size:=by omega
 have O:z[m]'I=c:=by
  rw[show z.size-1=m by omega,pN z _ I] at F;injection F
 have R:=Dk;have D:m<oB.size:=by omega
 obtain⟨x,hx⟩:∃ x:UInt8,oB[m]'D=x:=⟨_,rfl⟩
 have V:x.toNat<128:=xF _ x (by rw[<-hx];exact pN oB _ D);have af:((x.toNat:Int) != (c.toNat:Int))=true:=by simp;omega
 have ae:(m:Int)<(oB.size:Int):=by omega
 have U:(m:Int)+1<=(oB.size:Int):=by omega
 have ac:m+1<=oB.size:=by omega
 clear R;have hI:∀ W:World,Calls prog 142 #[.string (oB.extract (m+1) oB.size),.int .u8 c.toNat] W fun e w'=>e=.returned (.int .i64 (-1))/\w'=W:=by
  intro W;refine(gW _ c W).mono ?_;rintro e w' ⟨rfl,rfl⟩;refine⟨fT ?_,rfl⟩;show Lib.indexByte (bl (oB.extract (m+1) oB.size)) c=-1;have H:(bl (oB.extract (m+1) oB.size)).contains c=false:=by
   rw[ik];cases hcc:((bl oB).drop (m+1)).contains c with
   | false=>rfl
   | true=>
    have K:c∈(bl oB).drop (m+1):=by simpa using hcc
    obtain⟨j,hj⟩:=List.getElem?_of_mem (List.mem_of_mem_drop K);have:=xF j c hj;omega
  exact Mc _ _ H
 have iw:IntKind.i64.wrap ((m:Int)+1)=(m:Int)+1:=IntWalk.i64_in _ (by omega);have ad:∀ W:World,(Instr.slice 9 (.string oB) (some (.int .i64 ((m:Int)+1))) none none).run prog W=.ok (.string (oB.extract (m+1) oB.size)) W:=fun W=>run_slice_string_l W 9 oB underlying9 .i64 ((m:Int)+1) (by omega) U;have aa:∀ W:World,(Instr.index 9 (.string z) (.int .i64 (m:Int))).run prog W=.ok (.int .u8 c.toNat) W:=fun W=>by
  rw[run_index_string W 9 z .i64 (m:Int) underlying9,dif_pos ⟨by omega,by omega⟩];simp[O]
 have X:∀ W:World,(Instr.index 9 (.string oB) (.int .i64 (m:Int))).run prog W=.ok (.int .u8 x.toNat) W:=fun W=>by
  rw[run_index_string W 9 oB .i64 (m:Int) underlying9,dif_pos ⟨by omega,by omega⟩];simp[hx]
 clear F;go_in;go_wp2_with (go_at_call 253;refine mb (Tryz.utf8_ValidRune _ _) ?_;rintro w' hw;rw[hw,hv]);go_step3;go_wp2_with fail;refine wp_loop_rounds 1 ?_;rw[rounds_succ];go_wp2_with fail;go_step3;go_wp2;go_quiet (fail);go_wp2_with fail;have Z:=fun n=>gh (Below.refl w.heap.size w) n;generalize Y:w.drewN _=W2;have HW:Bw w W2:=by rw[<-Y];exact Z _
 clear Y Z;go_quiet ((go_at_call 142;exact Calls.quiet_of_same (hI _)));go_wp2_with fail;rw[Exit.noGoto_ret];go_wp2_with fail;rw[Exit.noGoto_ret];go_ret;exact⟨rfl,gh HW _⟩
theorem GW (r:Int)(w:World)(F:128<=r)(D:r<=1114111):Calls prog 203 #[.string oB,.int .i32 r] w fun e w'=>e=.returned (.int .i64 (-1))/\Bw w w':=by
 by_cases z:r=65533
 ·subst z;exact GS w
 ·cases hv:Lib.validRune r with
  | false=>exact GU r w F D z hv
  | true=>exact Dl r w F D z hv
theorem Dm (s:BA)(w:World)(h8:s.size<=8):Calls prog 151 #[.string s,.string oB] w fun e w'=>e=.returned (.int .i64 (Lib.indexAny (bl s) (bl oB)))/\Bw w w':=by
 have af:oB.toList.isEmpty=false:=by rw[fK];rfl
 have ae:¬ oB.toList=[]:=by rw[fK];intro h;exact absurd (congrArg List.length h) (by decide)
 have ag:((oB.size:Int)==1)=false:=rfl;have aa:decide ((8:Int)<(s.size:Int))=false:=dF (by omega);go_in;go_wp2_with (go_at_call 204;refine mb (Tryz.strings_shouldUseASCIISet _ _) ?_;rintro w' M;rw[M,aa]);go_loopg [9,10] s.size (fun g _ _ wx=>∃ i:Nat,i+g=s.size/\Hid (wx.heap[w.heap.size]?=some (.stringIter s i))/\Hid (Bw w wx)/\Hid (Lib.NoAny (bl s) (bl oB) i))
 case atStart=>exact⟨0,by omega,World.iter_heap w s 0,bR.alloc lr _,Lib.NoAny.zero _ _⟩
 case round=>
  obtain⟨i,ah,R,HB,U⟩:=hrel;cases gk with
  | zero=>
   obtain rfl:i=s.size:=by omega
   have J:=fun O=>Lib.run_next_end_at (P:=prog) wr w.heap.size s s.size O R (by omega);go_wp2;go_ret;exact⟨fT (by rw[Lib.indexAny_none (by rw[fI];exact U.out)]),HB⟩
  | succ g=>
   have V:i<s.size:=by omega
   have H:=pN s i V;by_cases ha:(s[i]'V).toNat<128
   ·have J:=fun O=>Lib.run_next_ascii_at (P:=prog) wr w.heap.size s i O R V ha;obtain⟨x,hx⟩:∃ x:UInt8,s[i]'V=x:=⟨_,rfl⟩
    rw[hx] at J ha H;have HX:=fH H;clear H hx;have z:((x.toNat:Int)).toNat.toUInt8=x:=by simp
    have F:Hid (Bw w (wr.iterAt w.heap.size s (i+1))):=Lib.below_iterAt HB lr _ _;have I:Hid ((wr.iterAt w.heap.size s (i+1)).heap[w.heap.size]?=some (.stringIter s (i+1))):=Lib.iterAt_heap _ _ _ _ _ R.out;cases hin:(bl oB).contains x with
    | false=>
     have Y:=nP oB x hin;unfold JT bl at Y;have HI:=fH hin;clear hin;go_wp2_with (go_at_call 203;refine mb (Tryz.strings_IndexRune_ascii _ _ _ (by omega) (by omega)) ?_;rintro w' M;rw[M,z]);go_roundg g
     case measure=>omega
     case rel=>exact⟨i+1,by omega,I,F,U.succ HX HI⟩
    | true=>
     have X:=oV oB x hin;unfold JT bl at X;have HI:=fH hin;clear hin;go_wp2_with (go_at_call 203;refine mb (Tryz.strings_IndexRune_ascii _ _ _ (by omega) (by omega)) ?_;rintro w' M;rw[M,z]);go_ret;exact⟨fT (Lib.indexAny_hit U HX HI).symm,F⟩
   ·obtain⟨⟨d1,d2⟩,⟨d3,d4⟩,d5⟩:=PC s i V ha;have J:=fun O=>Lib.run_next_any_at (P:=prog) wr w.heap.size s i O R V;have HD:=fH d5;clear d5 H;generalize Utf8.decode s i=D at *;obtain⟨r,n⟩:=D;simp only at d1 d2 d3 d4 J;have F:Hid (Bw w (wr.iterAt w.heap.size s (i+n))):=Lib.below_iterAt HB lr _ _;have I:Hid ((wr.iterAt w.heap.size s (i+n)).heap[w.heap.size]?=some (.stringIter s (i+n))):=Lib.iterAt_heap _ _ _ _ _ R.out;have Z:Hid (Lib.NoAny (bl s) (bl oB) (i+n)):=by
     intro j b hj K;by_cases ac:j<i
     ·exact U.out j b ac K
     ·have h1:=HD.out j b (by omega) hj K;cases hc:(bl oB).contains b with
      | false=>rfl
      | true=>
       have hm:b∈bl oB:=by simpa using hc
       obtain⟨k,hk⟩:=List.getElem?_of_mem hm;have:=xF k b hk;omega
    clear HD;go_wp2_with fail;refine mb (GW (r:Int) _ (by omega) (by omega)) ?_;rintro w' K;have HS:w.heap.size<(wr.iterAt w.heap.size s (i+n)).heap.size:=(Array.getElem?_eq_some_iff.1 I).1;have ab:Hid (Bw w w'):=acb F K F.size;have ad:Hid (w'.heap[w.heap.size]?=some (.stringIter s (i+n))):=(K.block _ HS).trans I.out;clear K;go_wp2;go_roundg (g+1-n)
    case measure=>omega
    case rel=>exact⟨i+n,by omega,ad,ab,Z⟩
theorem Kh (s:BA)(w:World)(F:s.size<=4294967280):Calls prog 151 #[.string s,.string oB] w fun e w'=>e=.returned (.int .i64 (Lib.indexAny (bl s) (bl oB)))/\Bw w w':=by
 by_cases z:s.size<=8
 ·exact Dm s w z
 ·refine(Tryz.strings_IndexAny_long (by intro w;kernel_rfl) s oB w (by decide) (by omega) (by omega) (by decide) (fun j b h=>xF j b h)).mono ?_;rintro e w' ⟨rfl,rfl⟩;refine⟨rfl,?_⟩;have D:Bw w (w.alloc (.cells (Lib.setCells oB.data.toList) 219)):=bR.alloc lr _;exact D.alloc (by simp) _
end
section
open Go.RowKit
theorem xY (c:UInt8):∀ (l:LU),c∈l->∃ k:Nat,Lib.indexByte l c=k/\c ∉ l.take k/\l[k]?=some c
 | [],h=>by simp at h
 | b::r,h=>by
  by_cases D:b=c
  ·subst D;exact⟨0,by simp[Lib.indexByte],by simp,by simp⟩
  ·have H:c∈r:=by rcases List.mem_cons.1 h with h | h;exact absurd h.symm D;exact h
   obtain⟨k,I,F,J⟩:=xY c r H;refine⟨k+1,?_,?_,by simpa using J⟩
   ·have:(b==c)=false:=by simp[D]
    simp only[Lib.indexByte,this,I];rw[if_neg (by simp),if_neg (by simp;try omega)];rfl
   ·rw[List.take_succ_cons];intro z;rcases List.mem_cons.1 z with z | z;exact D z.symm;exact F z
theorem vJ (c:UInt8):∀ (n:Nat)(l:LU),l.count c=n->Lib.splitK [c] 0 n l=jq c l
 | 0,l,h=>by
  rw[zt c l (List.count_eq_zero.1 h)];rfl
 | n+1,l,h=>by
  have J:c∈l:=List.count_pos_iff.1 (by omega);unfold Lib.splitK;rw[Lib.index_one];obtain⟨k,K,I,H⟩:=xY c l J;have D:k<l.length:=(gS H).1;have F:l=l.take k++c::l.drop (k+1):=by
   have M:l[k]=c:=(gS H).2
   conv=>lhs;rw[<-List.take_append_drop k l,List.drop_eq_getElem_cons D,M]
  have z:jq c l=l.take k::jq c (l.drop (k+1)):=by
   conv=>lhs;rw[F]
   exact wB c _ _ I
  rw[K,if_neg (by simp;try omega),z];have e:((k:Int)).toNat=k:=by omega
  rw[e];congr 1;simp only[List.length_singleton];refine vJ c n (l.drop (k+1)) ?_;rw[F,List.count_append,List.count_eq_zero.2 I,List.count_cons_self] at h;simp at h |-;omega
def lj (c:UInt8)(s:BA):List BA:=(jq c (bl s)).map fun p=>(⟨p.toArray⟩:BA)
theorem vK (c:UInt8)(s:BA):Lib.splitB ⟨#[c]⟩ 0 (Lib.countB s ⟨#[c]⟩) s=lj c s:=by
 have h:=Lib.splitB_data ⟨#[c]⟩ 0 (Lib.countB s ⟨#[c]⟩) s;have z:Lib.countB s ⟨#[c]⟩=(bl s).count c:=by
  show Lib.count _ _=_;exact Lib.count_one c (bl s)
 have D:(Lib.splitB ⟨#[c]⟩ 0 (Lib.countB s ⟨#[c]⟩) s).map bl=jq c (bl s):=by
  refine Eq.trans h ?_;rw[z];exact vJ c _ (bl s) rfl
 unfold lj;rw[<-D,An]
theorem Yt (c:UInt8)(s:BA)(w:World)(J:Gl w)(K:s.size<=4294967280):Calls prog 133 #[.string s,.string ⟨#[c]⟩] w fun e w'=>e=.returned (.slice (some ⟨w.heap.size,0,none⟩) (lj c s).length (lj c s).length)/\Rd w' 1 (some ⟨w.heap.size,0,none⟩) (lj c s).length (strCells (lj c s))/\Bw w w':=by
 obtain⟨m,F⟩:=J.ml;refine(Tryz.strings_Split s ⟨#[c]⟩ m w (by omega) F (by simp[ByteArray.size])).mono fun e w' ⟨H,z⟩=>?_;have D:(lj c s).length=Lib.countB s ⟨#[c]⟩+1:=by
  rw[<-vK];exact Lib.splitB_all ⟨#[c]⟩ (by simp[ByteArray.size]) 0 _ s rfl
 rw[vK] at z;rw[D,z];refine⟨H,⟨by simp[strCells,D],fun _=>⟨_,0,rfl,fun j u I=>?_⟩⟩,bR.alloc lr _⟩;simpa [strCells] using I
theorem Fd (c:UInt8):∀ (l:LU),(jq c l).length<=l.length+1
 | []=>by simp[jq]
 | a::r=>by
  have:=Fd c r;unfold jq;split
  ·simp;omega
  ·simp;omega
theorem sV (c:UInt8):∀ (l p:LU),p∈jq c l->p.length<=l.length
 | [],p,h=>by simp[jq] at h;simp[h]
 | a::r,p,h=>by
  unfold jq at h;split at h
  ·rcases List.mem_cons.1 h with rfl | h
   ·simp
   ·have:=sV c r p h;simp;omega
  ·cases hr:jq c r with
   | nil=>exact absurd hr (IV c r)
   | cons q qs=>
    rw[hr] at h;simp only[List.headD_cons,List.tail_cons] at h;rcases List.mem_cons.1 h with rfl | h
    ·have:=sV c r q (by rw[hr];simp);simp;omega
    ·have:=sV c r p (by rw[hr];exact List.mem_cons_of_mem _ h);simp;omega
theorem Fe (l:LU):jF l=((jF l).toNat:Int)/\(jF l).toNat<=4611686018427387903:=by
 unfold jF CW;split
 ·rename_i h;have z:=(TR l l.length (by unfold vT at h;simp only[Bool.and_eq_true] at h;exact h.2)).1;rw[tL lr] at z;split
  ·constructor<;>omega
  ·simp
 ·simp
def kj (l:LU):Nat:=(jF l).toNat
theorem uU (s:BA)(w:World)(z:s.size<=9223372036854775807):Calls prog 87 #[.string s] w fun e w'=>e=.returned (.tuple #[.int .i64 (kj (bl s)),.int .i64 (mh (bl s))])/\w=w':=
 (pf s w z).mono fun e w' ⟨F,D⟩=>⟨by rw[F];unfold oF kj;rw[<-(Fe (bl s)).1],D⟩
theorem uV (l:LU):kj l<=4611686018427387903:=(Fe l).2
end
end Go.Proofs.YtkmjcombhjombaaGreatDoor
