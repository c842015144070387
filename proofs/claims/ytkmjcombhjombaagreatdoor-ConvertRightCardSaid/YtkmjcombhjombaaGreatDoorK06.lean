/- A part of the proof. -/
import Derived.Test.YtkmjcombhjombaaGreatDoorK04
import Derived.Test.YtkmjcombhjombaaGreatDoorK05
set_option maxRecDepth 100000
set_option maxHeartbeats 20000000
set_option linter.unusedVariables false
set_option linter.unusedSimpArgs false
namespace Go.Proofs.YtkmjcombhjombaaGreatDoor
variable{l r:LU}{d n:Nat}
section
open Go.RowKit
theorem pm (p:UInt8->Bool)(l:LU):jo p l<=l.length:=by
 unfold jo;exact(List.takeWhile_sublist p).length_le
theorem Yg (p:UInt8->Bool)(l:LU):decide (jo p l=l.length)=l.all p:=by
 rw[bI];constructor
 ·intro h;have h:=dO h;have:=(List.takeWhile_sublist p (l:=l)).eq_of_length h;rw[<-this];simp
 ·intro h;unfold jo;rw[sR _ h];simp
theorem Kp (p:UInt8->Bool)(s:BA):(((jo p (bl s):Nat):Int)==(s.size:Int))=(bl s).all p:=by
 rw[<-Yg,iX,bI];simp;omega
theorem ux (s:BA)(j:Nat)(c:UInt8)(h:j<s.size):((s.data[j]!).toNat:Int)=c.toNat↔(bl s)[j]?=some c:=by
 rw[qJ s j h];have e:s.data[j]! = s[j]:=getElem!_pos s.data j h;rw[e];constructor
 ·intro y;congr 1;apply UInt8.toNat_inj.1;omega
 ·intro y;injection y with y;rw[y]
theorem Ja (s:BA)(j:Nat)(h:¬ j<s.size):(bl s)[j]?=none:=by
 apply List.getElem?_eq_none;rw[iX];omega
theorem Kq (s:BA)(c:UInt8)(h:nj c (bl s)=none):Lib.lastIndexByte s c.toNat=-1:=by
 rcases Lib.lastIndexByte_spec s c.toNat with⟨e,_⟩ | ⟨i,I,e,F,H⟩
 ·exact e
 ·have:=tY c (bl s) i ((ux s i c I).1 F) (fun j D z=>by
   by_cases y:j<s.size
   ·exact H j D y ((ux s j c y).2 z)
   ·rw[Ja s j y] at z;cases z)
  rw[this] at h;cases h
theorem Kr (s:BA)(c:UInt8)(i:Nat)(h:nj c (bl s)=some i):Lib.lastIndexByte s c.toNat=i:=by
 rcases Lib.lastIndexByte_spec s c.toNat with⟨e,D⟩ | ⟨k,F,e,I,D⟩
 ·have:=Ct c (bl s) (fun j z=>by
   by_cases y:j<s.size
   ·exact D j y ((ux s j c y).2 z)
   ·rw[Ja s j y] at z;cases z)
  rw[this] at h;cases h
 ·have:=tY c (bl s) k ((ux s k c F).1 I) (fun j H z=>by
   by_cases y:j<s.size
   ·exact D j H y ((ux s j c y).2 z)
   ·rw[Ja s j y] at z;cases z)
  rw[this] at h;injection h with h;rw[e,h]
theorem F7 (c:UInt8)(a:Addr)(o:BA)(w:World)(ha:w.cell? a=some (.string o)):Calls Tryz.prog 263 #[.int .u8 c.toNat,.pointer (some a)] w fun e w'=>e=.returned (.bool (sP c||jV c||(bl o).contains c))/\w=w':=by
 cases h1:sP c
 ·cases h2:jV c
  ·cases h3:(bl o).contains c
   ·have y:=pj o c h3;have z:=iV h3;clear h3;go_in;go_wp2_with (first | (go_at_call 264;refine(pP _ _).mono ?_;rintro e w' ⟨rfl,rfl⟩) | (go_at_call 214;refine(mu _ _).mono ?_;rintro e w' ⟨rfl,rfl⟩) | (go_at_call 142;refine(jQ _ _ _).mono ?_;rintro e w' ⟨rfl,rfl⟩));go_ret;exact⟨iW dF,rfl⟩
   ·have y:=pO o c h3;have z:=iV h3;clear h3;go_in;go_wp2_with (first | (go_at_call 264;refine(pP _ _).mono ?_;rintro e w' ⟨rfl,rfl⟩) | (go_at_call 214;refine(mu _ _).mono ?_;rintro e w' ⟨rfl,rfl⟩) | (go_at_call 142;refine(jQ _ _ _).mono ?_;rintro e w' ⟨rfl,rfl⟩));go_ret;exact⟨iW rfl,rfl⟩
  ·go_in;go_wp2_with (first | (go_at_call 264;refine(pP _ _).mono ?_;rintro e w' ⟨rfl,rfl⟩) | (go_at_call 214;refine(mu _ _).mono ?_;rintro e w' ⟨rfl,rfl⟩));go_ret;exact⟨rfl,rfl⟩
 ·go_in;go_wp2_with (first | (go_at_call 264;refine(pP _ _).mono ?_;rintro e w' ⟨rfl,rfl⟩));go_ret;exact⟨rfl,rfl⟩
theorem RS (s o:BA)(a:Addr)(w:World)(ha:w.cell? a=some (.string o))(hs:s.size<=9223372036854775807):Calls Tryz.prog 217 #[.string s,.func (.func 263) #[] #[.pointer (some a)]] w fun e w'=>e=.returned (.int .i64 (jo (Yf (bl o)) (bl s)))/\w=w':=
 I8 _ _ _ s w hs Tryz.call263 (iV fun c=>F7 c a o w ha)
theorem Jb (s o:BA)(w:World)(hs:s.size<=9223372036854775807):Calls Tryz.prog 213 #[.string s,.string o] w fun e w'=>e=.returned (.bool (km (bl o) (bl s)))/\Below w.heap.size w w':=by
 by_cases y:s.size=0
 ·have z:s.toList=[]:=by rw[iY,kw s y]
  go_in;go_wp2;go_ret;exact⟨iW (by rw[kw s y];rfl),bR.alloc lr _⟩
 ·have z:s.toList.isEmpty=false:=by rw[iY,jB];simpa using y
  have D:¬ s.toList=[]:=by intro h;rw[h] at z;simp at z
  go_in;go_wp2_with (go_at_call 217;refine(RS _ _ _ _ (by simp;rfl) hs).mono ?_;rintro e w' ⟨rfl,rfl⟩);go_ret;refine⟨iW ?_,bR.alloc lr _⟩;rw[Kp];unfold km;rw[jB,dF y];rfl
theorem Cu (s:BA)(w:World)(hs:s.size<=9223372036854775807):Calls Tryz.prog 212 #[.string s] w fun e w'=>e=.returned (.bool (sS (bl s)))/\w=w':=by
 by_cases y:s.size=0
 ·have z:s.toList=[]:=by rw[iY,kw s y]
  go_in;go_wp2;go_ret;exact⟨iW (by rw[kw s y];rfl),rfl⟩
 ·have z:s.toList.isEmpty=false:=by rw[iY,jB];simpa using y
  have D:¬ s.toList=[]:=by intro h;rw[h] at z;simp at z
  go_in;go_wp2_with (go_at_call 217;refine(GV _ _ hs).mono ?_;rintro e w' ⟨rfl,rfl⟩);go_ret;refine⟨iW ?_,rfl⟩;rw[Kp];unfold sS;rw[jB,dF y];rfl
theorem mx (s:BA)(c:UInt8)(w:World)(hs:s.size<=9223372036)(h:Hid (nj c (bl s)=none)):Calls Tryz.prog 165 #[.string s,.int .u8 c.toNat] w fun e w'=>e=.returned (.int .i64 (-1))/\w=w':=
 (Tryz.strings_LastIndexByte s c.toNat (by omega) w).mono fun _ _ ⟨y,z⟩=>⟨by rw[y,Kq s c h.out],z.symm⟩
theorem kM (s:BA)(c:UInt8)(i:Nat)(w:World)(hs:s.size<=9223372036)(h:Hid (nj c (bl s)=some i)):Calls Tryz.prog 165 #[.string s,.int .u8 c.toNat] w fun e w'=>e=.returned (.int .i64 i)/\w=w':=
 (Tryz.strings_LastIndexByte s c.toNat (by omega) w).mono fun _ _ ⟨y,z⟩=>⟨by rw[y,Kr s c i h.out],z.symm⟩
theorem kH (s sep:BA)(w:World)(hG:Gl w)(hs:s.size<=4294967280):Calls Tryz.prog 96 #[.string s,.string sep] w fun e w'=>e=.returned (.tuple #[.string (pA s sep),.string (rI s sep),.bool (FZ s sep)])/\Below w.heap.size w w':=by
 obtain⟨m,D⟩:=hG.ml;exact(Tryz.strings_Cut s sep m w (by omega) D).mono fun _ _ ⟨y,n,z⟩=>⟨y,by rw[z];exact jj bR n⟩
theorem ju {fn:Func}{t u v x:Tmp}(h:fn.results=#[.tmp t,.tmp u,.tmp v,.tmp x])(tmps:Array Value)(P:Program)(w:World):
  (results fn tmps).run P w=.ok (.tuple #[tmps.getD t undef,tmps.getD u undef,tmps.getD v undef,tmps.getD x undef]) w:=by simp[results,h]
def la (r:Option (LU×LU×LU))(w:World)(e:Ending)(w':World):Prop:=
 ∃ (ep pr rv:BA) (ok:Bool),e=.returned (.tuple #[.string ep,.string pr,.string rv,.bool ok])/\r=(if ok=true then some (bl ep,bl pr,bl rv) else none)/\ep.size<=64/\pr.size<=64/\rv.size<=64/\Below w.heap.size w w'
theorem la.no {r:Option (LU×LU×LU)}{w w':World}(h:r=none)(hb:Below w.heap.size w w'):la r w (.returned (.tuple #[.string ⟨#[]⟩,.string ⟨#[]⟩,.string ⟨#[]⟩,.bool false])) w':=
 ⟨_,_,_,_,rfl,h,by decide,by decide,by decide,hb⟩
theorem KG (l:LU)(h:(Lib.cut l [58]).2.2=false):mN l=some ([],l):=by simp[mN,h]
theorem Sg (l:LU)(h:(Lib.cut l [58]).2.2=true)(h1:sS (Lib.cut l [58]).1=true)(h2:(Lib.cut l [58]).1.length<=9):mN l=some ((Lib.cut l [58]).1,(Lib.cut l [58]).2.1):=by simp[mN,h,h1,h2]
theorem Jf (l:LU)(h:(Lib.cut l [58]).2.2=true)(h1:¬ (sS (Lib.cut l [58]).1=true/\(Lib.cut l [58]).1.length<=9)):mN l=none:=by simp[mN,h,h1]
theorem qK (ep p:LU)(h:nj 45 p=none)(h1:km [46,43,126,45] p=false\/sy p=false):(pF p).map (fun r=>(ep,r.1,r.2))=none:=by
 unfold pF;rw[h];rcases h1 with h1 | h1<;>simp[h1]
theorem uy (ep p:LU)(h:nj 45 p=none)(h1:km [46,43,126,45] p=true)(h2:sy p=true):(pF p).map (fun r=>(ep,r.1,r.2))=some (ep,p,[]):=by
 unfold pF;rw[h];simp[h1,h2]
theorem od (ep p:LU)(i:Nat)(h:nj 45 p=some i)(h1:km [46,43,126] (p.drop (i+1))=false\/km [46,43,126,45] (p.take i)=false\/sy (p.take i)=false):(pF p).map (fun r=>(ep,r.1,r.2))=none:=by
 unfold pF;rw[h];rcases h1 with h1 | h1 | h1<;>simp[h1]
theorem uz (ep p:LU)(i:Nat)(h:nj 45 p=some i)(h0:km [46,43,126] (p.drop (i+1))=true)(h1:km [46,43,126,45] (p.take i)=true)(h2:sy (p.take i)=true):(pF p).map (fun r=>(ep,r.1,r.2))=some (ep,p.take i,p.drop (i+1)):=by
 unfold pF;rw[h];simp[h0,h1,h2]
theorem jr (s o:BA)(b:Bool)(w:World)(hs:s.size<=9223372036854775807)(h:Hid (km (bl o) (bl s)=b)):Calls Tryz.prog 213 #[.string s,.string o] w fun e w'=>e=.returned (.bool b)/\Below w.heap.size w w':=by
 rw[<-h.out];exact Jb s o w hs
theorem jJ (s:BA)(b:Bool)(w:World)(hs:s.size<=9223372036854775807)(h:Hid (sS (bl s)=b)):Calls Tryz.prog 212 #[.string s] w fun e w'=>e=.returned (.bool b)/\w=w':=by
 rw[<-h.out];exact Cu s w hs
theorem wD (s:BA)(w:World)(hG:Gl w)(hs:s.size<=64)(hk:FZ s ⟨#[58]⟩=false):Calls Tryz.prog 161 #[.string s] w (la (oj (bl s)) w):=by
 have O:=iV hG;clear hG;have U:Hid (oj (bl s)=(pF (bl s)).map fun r=>([],r.1,r.2)):=by
  show _=_;unfold oj;rw[KG (bl s) hk]
 cases hl:nj 45 (bl s) with
 | none=>
  have D:=iV hl;clear hl;cases hm:km [46,43,126,45] (bl s)
  ·have F:=iV hm;clear hm;go_in;go_wp2_with fail;refine(kH s _ _ O.out (by omega)).mono ?_;rintro e X ⟨rfl,z⟩;go_wp2_with fail;refine(mx s 45 _ (by omega) D).mono ?_;rintro e H ⟨rfl,rfl⟩;go_wp2_with fail;refine(jr _ _ false _ (by omega) (by exact F)).mono ?_;rintro e H ⟨rfl,y⟩;go_wp2_with fail;refine bodyPost_ret (ju rfl _ _ _) rfl ?_;exact⟨⟨#[]⟩,s,⟨#[]⟩,false,rfl,by rw[U.out,qK _ _ D.out (.inl F.out)];rfl,by decide,by omega,by decide,jc z y⟩
  ·have F:=iV hm;have M:=vo _ _ hm;clear hm;go_in;go_wp2_with fail;refine(kH s _ _ O.out (by omega)).mono ?_;rintro e X ⟨rfl,z⟩;go_wp2_with fail;refine(mx s 45 _ (by omega) D).mono ?_;rintro e H ⟨rfl,rfl⟩;go_wp2_with fail;refine(jr _ _ true _ (by omega) (by exact F)).mono ?_;rintro e H ⟨rfl,y⟩;go_wp2_with fail;refine(mu s[0] _).mono ?_;rintro e Y ⟨rfl,rfl⟩;go_wp2_with fail;refine bodyPost_ret (ju rfl _ _ _) rfl ?_;refine⟨⟨#[]⟩,s,⟨#[]⟩,jV s[0],rfl,?_,by decide,by omega,by decide,jc z y⟩;rw[U.out];cases hd:jV s[0]
   ·rw[qK _ _ D.out (.inr (by rw[nD _ M];exact hd))];rfl
   ·rw[uy _ _ D.out F.out (by rw[nD _ M];exact hd)];rfl
 | some i=>
  have hi:=xD _ _ _ hl;rw[iX] at hi;have D:=iV hl;clear hl;have R:(s.extract (i+1) s.size).size<=64:=by rw[ByteArray.size_extract];omega
  have N:(s.extract 0 i).size<=64:=by rw[ByteArray.size_extract];omega
  cases hr:km [46,43,126] ((bl s).drop (i+1))
  ·have V:Hid (km [46,43,126] (bl (s.extract (i+1) s.size))=false):=by show _=_;rw[lm];exact hr
   have I:=iV hr;clear hr;go_in;go_wp2_with fail;refine(kH s _ _ O.out (by omega)).mono ?_;rintro e X ⟨rfl,z⟩;go_wp2_with fail;refine(kM s 45 i _ (by omega) D).mono ?_;rintro e H ⟨rfl,rfl⟩;go_wp2;go_region;go_wp2_with fail;refine(jr (s.extract (i+1) s.size) ⟨#[46,43,126]⟩ false _ (by omega) (by exact V)).mono ?_;rintro e H ⟨rfl,y⟩;go_wp2_with fail;refine bodyPost_ret (ju rfl _ _ _) rfl ?_;exact la.no (by rw[U.out,od _ _ i D.out (.inl I.out)]) (jc z.drew y)
  ·have V:Hid (km [46,43,126] (bl (s.extract (i+1) s.size))=true):=by show _=_;rw[lm];exact hr
   have I:=iV hr;clear hr;cases hm:km [46,43,126,45] ((bl s).take i)
   ·have F:Hid (km [46,43,126,45] (bl (s.extract 0 i))=false):=by show _=_;rw[mF];exact hm
    have J:=iV hm;clear hm;go_in;go_wp2_with fail;refine(kH s _ _ O.out (by omega)).mono ?_;rintro e X ⟨rfl,z⟩;go_wp2_with fail;refine(kM s 45 i _ (by omega) D).mono ?_;rintro e H ⟨rfl,rfl⟩;go_wp2;go_region;go_wp2_with fail;refine(jr (s.extract (i+1) s.size) ⟨#[46,43,126]⟩ true _ (by omega) (by exact V)).mono ?_;rintro e H ⟨rfl,y⟩;go_wp2_with fail;refine(jr (s.extract 0 i) ⟨#[46,43,126,45]⟩ false _ (by omega) (by exact F)).mono ?_;rintro e Y ⟨rfl,K⟩;go_wp2_with fail;refine bodyPost_ret (ju rfl _ _ _) rfl ?_;exact⟨⟨#[]⟩,s.extract 0 i,s.extract (i+1) s.size,false,rfl,by rw[U.out,od _ _ i D.out (.inr (.inl J.out))];rfl,by decide,N,R,jc (jc z.drew y) K⟩
   ·have F:Hid (km [46,43,126,45] (bl (s.extract 0 i))=true):=by show _=_;rw[mF];exact hm
    have M:=vo _ (s.extract 0 i) F.out;have Z:0<min i s.size:=by rw[ByteArray.size_extract] at M;omega
    have J:=iV hm;clear hm;go_in;go_wp2_with fail;refine(kH s _ _ O.out (by omega)).mono ?_;rintro e X ⟨rfl,z⟩;go_wp2_with fail;refine(kM s 45 i _ (by omega) D).mono ?_;rintro e H ⟨rfl,rfl⟩;go_wp2;go_region;go_wp2_with fail;refine(jr (s.extract (i+1) s.size) ⟨#[46,43,126]⟩ true _ (by omega) (by exact V)).mono ?_;rintro e H ⟨rfl,y⟩;go_wp2_with fail;refine(jr (s.extract 0 i) ⟨#[46,43,126,45]⟩ true _ (by omega) (by exact F)).mono ?_;rintro e Y ⟨rfl,K⟩;go_wp2_with fail;refine(mu (s.extract 0 i)[0] _).mono ?_;rintro e w4 ⟨rfl,rfl⟩;go_wp2_with fail;refine bodyPost_ret (ju rfl _ _ _) rfl ?_;refine⟨⟨#[]⟩,s.extract 0 i,s.extract (i+1) s.size,jV (s.extract 0 i)[0],rfl,?_,by decide,N,R,jc (jc z.drew y) K⟩;rw[U.out];cases hd:jV (s.extract 0 i)[0]
    ·rw[od _ _ i D.out (.inr (.inr (by rw[<-mF,nD _ M];exact hd)))];rfl
    ·rw[uz _ _ i D.out I.out J.out (by rw[<-mF,nD _ M];exact hd),if_pos rfl,mF,lm];rfl
theorem wE (s t u:BA)(w:World)(hG:Gl w)(hs:s.size<=64)(hk:FZ s ⟨#[58]⟩=true)(ht:t=rI s ⟨#[58]⟩)(hu:u=pA s ⟨#[58]⟩)
  (hn:sS (bl u)=true)(hl:u.size<=9):Calls Tryz.prog 161 #[.string s] w (la (oj (bl s)) w):=by
 have R:=iV hG;clear hG;have X:Hid (oj (bl s)=(pF (bl t)).map fun r=>(bl u,r.1,r.2)):=by
  show _=_;unfold oj;rw[Sg (bl s) hk (by rw[hu,nh] at hn;exact hn) (by rw[hu,<-iX,nh] at hl;exact hl),ht,hu,oI,nh];rfl
 have ad:t.size<=64:=by have:=BT s ⟨#[58]⟩;rw[ht];omega
 have V:=iV hn;clear hn;have ab:=ht.symm;have ac:=hu.symm;clear ht hu;cases hl:nj 45 (bl t) with
 | none=>
  have D:=iV hl;clear hl;cases hm:km [46,43,126,45] (bl t)
  ·have F:=iV hm;clear hm;go_in;go_wp2_with fail;refine(kH s _ _ R.out (by omega)).mono ?_;rintro e Z ⟨rfl,z⟩;go_wp2_with fail;refine(jJ _ _ _ (by omega) V).mono ?_;rintro e I ⟨rfl,rfl⟩;go_wp2_with fail;refine(mx t 45 _ (by omega) D).mono ?_;rintro e H ⟨rfl,rfl⟩;go_wp2_with fail;refine(jr _ _ false _ (by omega) (by exact F)).mono ?_;rintro e H ⟨rfl,y⟩;go_wp2_with fail;refine bodyPost_ret (ju rfl _ _ _) rfl ?_;exact⟨u,t,⟨#[]⟩,false,rfl,by rw[X.out,qK _ _ D.out (.inl F.out)];rfl,by omega,by omega,by decide,jc z y⟩
  ·have F:=iV hm;have N:=vo _ _ hm;clear hm;go_in;go_wp2_with fail;refine(kH s _ _ R.out (by omega)).mono ?_;rintro e Z ⟨rfl,z⟩;go_wp2_with fail;refine(jJ _ _ _ (by omega) V).mono ?_;rintro e I ⟨rfl,rfl⟩;go_wp2_with fail;refine(mx t 45 _ (by omega) D).mono ?_;rintro e H ⟨rfl,rfl⟩;go_wp2_with fail;refine(jr _ _ true _ (by omega) (by exact F)).mono ?_;rintro e H ⟨rfl,y⟩;go_wp2_with fail;refine(mu t[0] _).mono ?_;rintro e w3 ⟨rfl,rfl⟩;go_wp2_with fail;refine bodyPost_ret (ju rfl _ _ _) rfl ?_;refine⟨u,t,⟨#[]⟩,jV t[0],rfl,?_,by omega,by omega,by decide,jc z y⟩;rw[X.out];cases hd:jV t[0]
   ·rw[qK _ _ D.out (.inr (by rw[nD _ N];exact hd))];rfl
   ·rw[uy _ _ D.out F.out (by rw[nD _ N];exact hd)];rfl
 | some i=>
  have hi:=xD _ _ _ hl;rw[iX] at hi;have D:=iV hl;clear hl;have U:(t.extract (i+1) t.size).size<=64:=by rw[ByteArray.size_extract];omega
  have O:(t.extract 0 i).size<=64:=by rw[ByteArray.size_extract];omega
  cases hr:km [46,43,126] ((bl t).drop (i+1))
  ·have Y:Hid (km [46,43,126] (bl (t.extract (i+1) t.size))=false):=by show _=_;rw[lm];exact hr
   have J:=iV hr;clear hr;go_in;go_wp2_with fail;refine(kH s _ _ R.out (by omega)).mono ?_;rintro e Z ⟨rfl,z⟩;go_wp2_with fail;refine(jJ _ _ _ (by omega) V).mono ?_;rintro e I ⟨rfl,rfl⟩;go_wp2_with fail;refine(kM t 45 i _ (by omega) D).mono ?_;rintro e H ⟨rfl,rfl⟩;go_wp2;go_region;go_wp2_with fail;refine(jr (t.extract (i+1) t.size) ⟨#[46,43,126]⟩ false _ (by omega) (by exact Y)).mono ?_;rintro e H ⟨rfl,y⟩;go_wp2_with fail;refine bodyPost_ret (ju rfl _ _ _) rfl ?_;exact la.no (by rw[X.out,od _ _ i D.out (.inl J.out)]) (jc z.drew y)
  ·have Y:Hid (km [46,43,126] (bl (t.extract (i+1) t.size))=true):=by show _=_;rw[lm];exact hr
   have J:=iV hr;clear hr;cases hm:km [46,43,126,45] ((bl t).take i)
   ·have F:Hid (km [46,43,126,45] (bl (t.extract 0 i))=false):=by show _=_;rw[mF];exact hm
    have K:=iV hm;clear hm;go_in;go_wp2_with fail;refine(kH s _ _ R.out (by omega)).mono ?_;rintro e Z ⟨rfl,z⟩;go_wp2_with fail;refine(jJ _ _ _ (by omega) V).mono ?_;rintro e I ⟨rfl,rfl⟩;go_wp2_with fail;refine(kM t 45 i _ (by omega) D).mono ?_;rintro e H ⟨rfl,rfl⟩;go_wp2;go_region;go_wp2_with fail;refine(jr (t.extract (i+1) t.size) ⟨#[46,43,126]⟩ true _ (by omega) (by exact Y)).mono ?_;rintro e H ⟨rfl,y⟩;go_wp2_with fail;refine(jr (t.extract 0 i) ⟨#[46,43,126,45]⟩ false _ (by omega) (by exact F)).mono ?_;rintro e w3 ⟨rfl,M⟩;go_wp2_with fail;refine bodyPost_ret (ju rfl _ _ _) rfl ?_;exact⟨u,t.extract 0 i,t.extract (i+1) t.size,false,rfl,by rw[X.out,od _ _ i D.out (.inr (.inl K.out))];rfl,by omega,O,U,jc (jc z.drew y) M⟩
   ·have F:Hid (km [46,43,126,45] (bl (t.extract 0 i))=true):=by show _=_;rw[mF];exact hm
    have N:=vo _ (t.extract 0 i) F.out;have aa:0<min i t.size:=by rw[ByteArray.size_extract] at N;omega
    have K:=iV hm;clear hm;go_in;go_wp2_with fail;refine(kH s _ _ R.out (by omega)).mono ?_;rintro e Z ⟨rfl,z⟩;go_wp2_with fail;refine(jJ _ _ _ (by omega) V).mono ?_;rintro e I ⟨rfl,rfl⟩;go_wp2_with fail;refine(kM t 45 i _ (by omega) D).mono ?_;rintro e H ⟨rfl,rfl⟩;go_wp2;go_region;go_wp2_with fail;refine(jr (t.extract (i+1) t.size) ⟨#[46,43,126]⟩ true _ (by omega) (by exact Y)).mono ?_;rintro e H ⟨rfl,y⟩;go_wp2_with fail;refine(jr (t.extract 0 i) ⟨#[46,43,126,45]⟩ true _ (by omega) (by exact F)).mono ?_;rintro e w3 ⟨rfl,M⟩;go_wp2_with fail;refine(mu (t.extract 0 i)[0] _).mono ?_;rintro e w4 ⟨rfl,rfl⟩;go_wp2_with fail;refine bodyPost_ret (ju rfl _ _ _) rfl ?_;refine⟨u,t.extract 0 i,t.extract (i+1) t.size,jV (t.extract 0 i)[0],rfl,?_,by omega,O,U,jc (jc z.drew y) M⟩;rw[X.out];cases hd:jV (t.extract 0 i)[0]
    ·rw[od _ _ i D.out (.inr (.inr (by rw[<-mF,nD _ N];exact hd)))];rfl
    ·rw[uz _ _ i D.out J.out K.out (by rw[<-mF,nD _ N];exact hd),if_pos rfl,mF,lm]
theorem wF (s u:BA)(w:World)(hG:Gl w)(hs:s.size<=64)(hk:FZ s ⟨#[58]⟩=true)(hu:u=pA s ⟨#[58]⟩)
  (hn:¬ (sS (bl u)=true/\u.size<=9)):Calls Tryz.prog 161 #[.string s] w (la (oj (bl s)) w):=by
 have F:=iV hG;clear hG;have H:Hid (oj (bl s)=none):=by
  show _=_;unfold oj;rw[Jf (bl s) hk (by rw[hu,<-iX,nh] at hn;exact hn)]
 have J:u.size<=64:=by have:=xE s ⟨#[58]⟩;rw[hu];omega
 have K:=hu.symm;clear hu;cases hb:sS (bl u)
 ·have z:=iV hb;clear hb hn;go_in;go_wp2_with fail;refine(kH s _ _ F.out (by omega)).mono ?_;rintro e I ⟨rfl,y⟩;go_wp2_with fail;refine(jJ _ _ _ (by omega) z).mono ?_;rintro e D ⟨rfl,rfl⟩;go_wp2_with fail;refine bodyPost_ret (ju rfl _ _ _) rfl ?_;exact la.no H.out y
 ·have M:9<u.size:=by rw[hb] at hn;simp at hn;omega
  have z:=iV hb;clear hb hn;go_in;go_wp2_with fail;refine(kH s _ _ F.out (by omega)).mono ?_;rintro e I ⟨rfl,y⟩;go_wp2_with fail;refine(jJ _ _ _ (by omega) z).mono ?_;rintro e D ⟨rfl,rfl⟩;go_wp2_with fail;refine bodyPost_ret (ju rfl _ _ _) rfl ?_;exact la.no H.out y
theorem xL (s:BA)(w:World)(hG:Gl w)(hs:s.size<=64):Calls Tryz.prog 161 #[.string s] w (la (oj (bl s)) w):=by
 cases hk:FZ s ⟨#[58]⟩
 ·exact wD s w hG hs hk
 ·by_cases y:sS (bl (pA s ⟨#[58]⟩))=true/\(pA s ⟨#[58]⟩).size<=9
  ·exact wE s _ _ w hG hs hk rfl rfl y.1 y.2
  ·exact wF s _ w hG hs hk rfl y
def xM (r:Option (LU×LU×LU))(w:World)(e:Ending)(w':World):Prop:=
 ∃ (ep pr rv:BA) (c:Int),e=.returned (.tuple #[.string ep,.string pr,.string rv,.int .i64 c])/\(match r with | some (a,b,d)=>c=0/\bl ep=a/\bl pr=b/\bl rv=d | none=>c=3/\ep=⟨#[]⟩/\pr=⟨#[]⟩/\rv=⟨#[]⟩)/\Below w.heap.size w w'
theorem wG (s:BA)(w:World)(hG:Gl w)(hs:s.size<=64):Calls Tryz.prog 108 #[.int .i64 1,.string s] w (xM (oj (bl s)) w):=by
 have F:=iV hG;clear hG;go_in;go_wp2_with fail;refine(xL s _ F.out hs).mono ?_;rintro e M ⟨J,H,I,ok,rfl,D,N,K,O,y⟩;have z:=iV D;clear D;cases ok
 ·go_wp2_with fail;refine bodyPost_ret (ju rfl _ _ _) rfl ?_;exact⟨⟨#[]⟩,⟨#[]⟩,⟨#[]⟩,3,rfl,by rw[z.out];exact⟨rfl,rfl,rfl,rfl⟩,y⟩
 ·go_wp2_with fail;refine bodyPost_ret (ju rfl _ _ _) rfl ?_;exact⟨J,H,I,0,rfl,by rw[z.out];exact⟨rfl,rfl,rfl,rfl⟩,y⟩
def po:LU->Bool
 | a::_::_=>a==48
 | _=>false
theorem Gd (s:BA)(h:¬ 1<s.size):po (bl s)=false:=by
 have y:=iX s;cases hb:bl s with
 | nil=>rfl
 | cons a r=>cases r with
  | nil=>rfl
  | cons b r=>rw[hb] at y;simp at y;omega
theorem Ji (s:BA)(h:1<s.size):po (bl s)=(s[0]==48):=by
 have y:=iX s;have z:=pi s (by omega);cases hb:(bl s).tail with
 | nil=>rw[z,hb] at y;simp at y;omega
 | cons b r=>rw[z,hb];rfl
theorem aaX (a:UInt8):(((a.toNat:Nat):Int)==48)=(a==48):=by
 rw[bI];simp[<-UInt8.toNat_inj];omega
theorem CG (s:BA)(w:World)(hs:s.size<=9223372036854775807):Calls Tryz.prog 215 #[.string s] w fun e w'=>e=.returned (.bool (po (bl s)))/\w=w':=by
 by_cases h:1<s.size
 ·have z:0<s.size:=by omega
  have y:=iV (Ji s h);go_in;go_wp2;go_ret;exact⟨iW (by rw[y.out,aaX]),rfl⟩
 ·have y:=iV (Gd s h);go_in;go_wp2;go_ret;exact⟨iW y.out.symm,rfl⟩
theorem ot (s:BA)(b:Bool)(w:World)(hs:s.size<=9223372036854775807)(h:Hid (po (bl s)=b)):Calls Tryz.prog 215 #[.string s] w fun e w'=>e=.returned (.bool b)/\w=w':=by rw[<-h.out];exact CG s w hs
def rO:LU:=[46,95,43,126,94]
def pU (l:LU):Option (LU×LU):=
 if (Lib.cut l [58]).2.2=true then (if sS (Lib.cut l [58]).1=true/\(Lib.cut l [58]).1.length<=9/\po (Lib.cut l [58]).1=false then some ((Lib.cut l [58]).1,(Lib.cut l [58]).2.1) else none) else some ([],l)
def sF (p:LU):Option (LU×LU):=
 if (km rO (Lib.cut p [45]).1&&km rO (Lib.cut p [45]).2.1)=true then some ((Lib.cut p [45]).1,(Lib.cut p [45]).2.1) else none
def oo (l:LU):Option (LU×LU×LU):=
 match pU l with
 | none=>none
 | some (ep,p)=>(sF p).map fun r=>(ep,r.1,r.2)
theorem tj (ep p:LU)(a b:Bool)(ha:km rO (Lib.cut p [45]).1=a)(hb:km rO (Lib.cut p [45]).2.1=b):
  (sF p).map (fun r=>(ep,r.1,r.2))=if (a&&b)=true then some (ep,(Lib.cut p [45]).1,(Lib.cut p [45]).2.1) else none:=by
 unfold sF;rw[ha,hb];split<;>rfl
theorem xP (s:BA)(w:World)(hG:Gl w)(hs:s.size<=64)(hk:FZ s ⟨#[58]⟩=false):Calls Tryz.prog 162 #[.string s] w (la (oo (bl s)) w):=by
 have I:=iV hG;clear hG;have K:Hid (oo (bl s)=(sF (bl s)).map fun r=>([],r.1,r.2)):=by
  show _=_;unfold oo pU;rw[show(Lib.cut (bl s) [58]).2.2=false from hk];rfl
 have V:=xE s ⟨#[45]⟩;have U:=BT s ⟨#[45]⟩;cases ha:km rO (bl (pA s ⟨#[45]⟩))
 ·have H:=iV ha;clear ha;go_in;go_wp2_with fail;refine(kH s ⟨#[58]⟩ _ I.out (by omega)).mono ?_;rintro e M ⟨rfl,y⟩;go_wp2_with fail;refine(kH s ⟨#[45]⟩ _ (by exact I.out.below y) (by omega)).mono ?_;rintro e N ⟨rfl,D⟩;go_wp2_with fail;refine(jr (pA s ⟨#[45]⟩) ⟨#[46,95,43,126,94]⟩ false _ (by omega) (by exact H)).mono ?_;rintro e O ⟨rfl,z⟩;go_wp2_with fail;refine bodyPost_ret (ju rfl _ _ _) rfl ?_;exact⟨⟨#[]⟩,pA s ⟨#[45]⟩,rI s ⟨#[45]⟩,false,rfl,by rw[K.out,tj _ _ false (km rO (bl (rI s ⟨#[45]⟩))) (by rw[<-H.out,nh];rfl) (by rw[oI];rfl)];rfl,by decide,by omega,by omega,jc (jc y D) z⟩
 ·have H:=iV ha;clear ha;cases hb:km rO (bl (rI s ⟨#[45]⟩))
  ·have J:=iV hb;clear hb;go_in;go_wp2_with fail;refine(kH s ⟨#[58]⟩ _ I.out (by omega)).mono ?_;rintro e M ⟨rfl,y⟩;go_wp2_with fail;refine(kH s ⟨#[45]⟩ _ (by exact I.out.below y) (by omega)).mono ?_;rintro e N ⟨rfl,D⟩;go_wp2_with fail;refine(jr (pA s ⟨#[45]⟩) ⟨#[46,95,43,126,94]⟩ true _ (by omega) (by exact H)).mono ?_;rintro e O ⟨rfl,z⟩;go_wp2_with fail;refine(jr (rI s ⟨#[45]⟩) ⟨#[46,95,43,126,94]⟩ false _ (by omega) (by exact J)).mono ?_;rintro e R ⟨rfl,F⟩;go_wp2_with fail;refine bodyPost_ret (ju rfl _ _ _) rfl ?_;exact⟨⟨#[]⟩,pA s ⟨#[45]⟩,rI s ⟨#[45]⟩,false,rfl,by rw[K.out,tj _ _ true false (by rw[<-H.out,nh];rfl) (by rw[<-J.out,oI];rfl)];rfl,by decide,by omega,by omega,jc (jc (jc y D) z) F⟩
  ·have J:=iV hb;clear hb;go_in;go_wp2_with fail;refine(kH s ⟨#[58]⟩ _ I.out (by omega)).mono ?_;rintro e M ⟨rfl,y⟩;go_wp2_with fail;refine(kH s ⟨#[45]⟩ _ (by exact I.out.below y) (by omega)).mono ?_;rintro e N ⟨rfl,D⟩;go_wp2_with fail;refine(jr (pA s ⟨#[45]⟩) ⟨#[46,95,43,126,94]⟩ true _ (by omega) (by exact H)).mono ?_;rintro e O ⟨rfl,z⟩;go_wp2_with fail;refine(jr (rI s ⟨#[45]⟩) ⟨#[46,95,43,126,94]⟩ true _ (by omega) (by exact J)).mono ?_;rintro e R ⟨rfl,F⟩;go_wp2_with fail;refine bodyPost_ret (ju rfl _ _ _) rfl ?_;exact⟨⟨#[]⟩,pA s ⟨#[45]⟩,rI s ⟨#[45]⟩,true,rfl,by rw[K.out,tj _ _ true true (by rw[<-H.out,nh];rfl) (by rw[<-J.out,oI];rfl)];simp only[Bool.and_self,if_true,nh,oI];rfl,by decide,by omega,by omega,jc (jc (jc y D) z) F⟩
theorem xQ (s t u:BA)(w:World)(hG:Gl w)(hs:s.size<=64)(hk:FZ s ⟨#[58]⟩=true)(ht:t=rI s ⟨#[58]⟩)(hu:u=pA s ⟨#[58]⟩)
  (hn:sS (bl u)=true)(hl:u.size<=9)(ho:po (bl u)=false):Calls Tryz.prog 162 #[.string s] w (la (oo (bl s)) w):=by
 have J:=iV hG;clear hG;have O:Hid (oo (bl s)=(sF (bl t)).map fun r=>(bl u,r.1,r.2)):=by
  show _=_;unfold oo pU;have e1:bl u=(Lib.cut (bl s) [58]).1:=by rw[hu,nh];rfl
  have e2:bl t=(Lib.cut (bl s) [58]).2.1:=by rw[ht,oI];rfl
  rw[show(Lib.cut (bl s) [58]).2.2=true from hk,if_pos rfl,<-e1,<-e2,if_pos ⟨hn,by rw[iX];exact hl,ho⟩]
 have aa:t.size<=64:=by have:=BT s ⟨#[58]⟩;rw[ht];omega
 have N:=iV hn;have M:=iV ho;clear hn ho;have X:=ht.symm;have Z:=hu.symm;clear ht hu;have z1:=xE t ⟨#[45]⟩;have z2:=BT t ⟨#[45]⟩;cases ha:km rO (bl (pA t ⟨#[45]⟩))
 ·have I:=iV ha;clear ha;go_in;go_wp2_with fail;refine(kH s ⟨#[58]⟩ _ J.out (by omega)).mono ?_;rintro e U ⟨rfl,y⟩;go_wp2_with fail;refine(jJ _ _ _ (by omega) N).mono ?_;rintro e F ⟨rfl,rfl⟩;go_wp2_with fail;refine(ot _ _ _ (by omega) M).mono ?_;rintro e F ⟨rfl,rfl⟩;go_wp2_with fail;refine(kH t ⟨#[45]⟩ _ (by exact J.out.below y) (by omega)).mono ?_;rintro e R ⟨rfl,D⟩;go_wp2_with fail;refine(jr (pA t ⟨#[45]⟩) ⟨#[46,95,43,126,94]⟩ false _ (by omega) (by exact I)).mono ?_;rintro e V ⟨rfl,z⟩;go_wp2_with fail;refine bodyPost_ret (ju rfl _ _ _) rfl ?_;exact⟨u,pA t ⟨#[45]⟩,rI t ⟨#[45]⟩,false,rfl,by rw[O.out,tj _ _ false (km rO (bl (rI t ⟨#[45]⟩))) (by rw[<-I.out,nh];rfl) (by rw[oI];rfl)];rfl,by omega,by omega,by omega,jc (jc y D) z⟩
 ·have I:=iV ha;clear ha;cases hb:km rO (bl (rI t ⟨#[45]⟩))
  ·have K:=iV hb;clear hb;go_in;go_wp2_with fail;refine(kH s ⟨#[58]⟩ _ J.out (by omega)).mono ?_;rintro e U ⟨rfl,y⟩;go_wp2_with fail;refine(jJ _ _ _ (by omega) N).mono ?_;rintro e F ⟨rfl,rfl⟩;go_wp2_with fail;refine(ot _ _ _ (by omega) M).mono ?_;rintro e F ⟨rfl,rfl⟩;go_wp2_with fail;refine(kH t ⟨#[45]⟩ _ (by exact J.out.below y) (by omega)).mono ?_;rintro e R ⟨rfl,D⟩;go_wp2_with fail;refine(jr (pA t ⟨#[45]⟩) ⟨#[46,95,43,126,94]⟩ true _ (by omega) (by exact I)).mono ?_;rintro e V ⟨rfl,z⟩;go_wp2_with fail;refine(jr (rI t ⟨#[45]⟩) ⟨#[46,95,43,126,94]⟩ false _ (by omega) (by exact K)).mono ?_;rintro e Y ⟨rfl,H⟩;go_wp2_with fail;refine bodyPost_ret (ju rfl _ _ _) rfl ?_;exact⟨u,pA t ⟨#[45]⟩,rI t ⟨#[45]⟩,false,rfl,by rw[O.out,tj _ _ true false (by rw[<-I.out,nh];rfl) (by rw[<-K.out,oI];rfl)];rfl,by omega,by omega,by omega,jc (jc (jc y D) z) H⟩
  ·have K:=iV hb;clear hb;go_in;go_wp2_with fail;refine(kH s ⟨#[58]⟩ _ J.out (by omega)).mono ?_;rintro e U ⟨rfl,y⟩;go_wp2_with fail;refine(jJ _ _ _ (by omega) N).mono ?_;rintro e F ⟨rfl,rfl⟩;go_wp2_with fail;refine(ot _ _ _ (by omega) M).mono ?_;rintro e F ⟨rfl,rfl⟩;go_wp2_with fail;refine(kH t ⟨#[45]⟩ _ (by exact J.out.below y) (by omega)).mono ?_;rintro e R ⟨rfl,D⟩;go_wp2_with fail;refine(jr (pA t ⟨#[45]⟩) ⟨#[46,95,43,126,94]⟩ true _ (by omega) (by exact I)).mono ?_;rintro e V ⟨rfl,z⟩;go_wp2_with fail;refine(jr (rI t ⟨#[45]⟩) ⟨#[46,95,43,126,94]⟩ true _ (by omega) (by exact K)).mono ?_;rintro e Y ⟨rfl,H⟩;go_wp2_with fail;refine bodyPost_ret (ju rfl _ _ _) rfl ?_;exact⟨u,pA t ⟨#[45]⟩,rI t ⟨#[45]⟩,true,rfl,by rw[O.out,tj _ _ true true (by rw[<-I.out,nh];rfl) (by rw[<-K.out,oI];rfl)];simp only[Bool.and_self,if_true,nh,oI];rfl,by omega,by omega,by omega,jc (jc (jc y D) z) H⟩
theorem xR (s u:BA)(w:World)(hG:Gl w)(hs:s.size<=64)(hk:FZ s ⟨#[58]⟩=true)(hu:u=pA s ⟨#[58]⟩)
  (hn:¬ (sS (bl u)=true/\u.size<=9/\po (bl u)=false)):Calls Tryz.prog 162 #[.string s] w (la (oo (bl s)) w):=by
 have F:=iV hG;clear hG;have H:Hid (oo (bl s)=none):=by
  show _=_;unfold oo pU;have R:bl u=(Lib.cut (bl s) [58]).1:=by rw[hu,nh];rfl
  rw[show(Lib.cut (bl s) [58]).2.2=true from hk,if_pos rfl,<-R,if_neg (by rw[iX];exact hn)]
 have M:u.size<=64:=by have:=xE s ⟨#[58]⟩;rw[hu];omega
 have N:=hu.symm;clear hu;cases hb:sS (bl u)
 ·have D:=iV hb;clear hb hn;go_in;go_wp2_with fail;refine(kH s ⟨#[58]⟩ _ F.out (by omega)).mono ?_;rintro e I ⟨rfl,y⟩;go_wp2_with fail;refine(jJ _ _ _ (by omega) D).mono ?_;rintro e z ⟨rfl,rfl⟩;go_wp2_with fail;refine bodyPost_ret (ju rfl _ _ _) rfl ?_;exact la.no H.out y
 ·by_cases K:u.size<=9
  ·have J:po (bl u)=true:=by cases h:po (bl u) with | true=>rfl | false=>exact absurd ⟨hb,K,h⟩ hn
   have D:=iV hb;have O:=iV J;clear hb hn J;go_in;go_wp2_with fail;refine(kH s ⟨#[58]⟩ _ F.out (by omega)).mono ?_;rintro e I ⟨rfl,y⟩;go_wp2_with fail;refine(jJ _ _ _ (by omega) D).mono ?_;rintro e z ⟨rfl,rfl⟩;go_wp2_with fail;refine(ot _ _ _ (by omega) O).mono ?_;rintro e z ⟨rfl,rfl⟩;go_wp2_with fail;refine bodyPost_ret (ju rfl _ _ _) rfl ?_;exact la.no H.out y
  ·have D:=iV hb;clear hb hn;go_in;go_wp2_with fail;refine(kH s ⟨#[58]⟩ _ F.out (by omega)).mono ?_;rintro e I ⟨rfl,y⟩;go_wp2_with fail;refine(jJ _ _ _ (by omega) D).mono ?_;rintro e z ⟨rfl,rfl⟩;go_wp2_with fail;refine bodyPost_ret (ju rfl _ _ _) rfl ?_;exact la.no H.out y
theorem zh (s:BA)(w:World)(hG:Gl w)(hs:s.size<=64):Calls Tryz.prog 162 #[.string s] w (la (oo (bl s)) w):=by
 cases hk:FZ s ⟨#[58]⟩
 ·exact xP s w hG hs hk
 ·by_cases y:sS (bl (pA s ⟨#[58]⟩))=true/\(pA s ⟨#[58]⟩).size<=9/\po (bl (pA s ⟨#[58]⟩))=false
  ·exact xQ s _ _ w hG hs hk rfl rfl y.1 y.2.1 y.2.2
  ·exact xR s _ w hG hs hk rfl y
theorem xS (s:BA)(w:World)(hG:Gl w)(hs:s.size<=64):Calls Tryz.prog 108 #[.int .i64 2,.string s] w (xM (oo (bl s)) w):=by
 have F:=iV hG;clear hG;go_in;go_wp2_with fail;refine(zh s _ F.out hs).mono ?_;rintro e M ⟨J,H,I,ok,rfl,D,N,K,O,y⟩;have z:=iV D;clear D;cases ok
 ·go_wp2_with fail;refine bodyPost_ret (ju rfl _ _ _) rfl ?_;exact⟨⟨#[]⟩,⟨#[]⟩,⟨#[]⟩,3,rfl,by rw[z.out];exact⟨rfl,rfl,rfl,rfl⟩,y⟩
 ·go_wp2_with fail;refine bodyPost_ret (ju rfl _ _ _) rfl ?_;exact⟨J,H,I,0,rfl,by rw[z.out];exact⟨rfl,rfl,rfl,rfl⟩,y⟩
theorem oK {p:UInt8->Bool}{a:UInt8}(h:p a=false):jo p (a::r)=0:=by simp[jo,h]
theorem vp {p:UInt8->Bool}:∀ (l:LU),jo p l<l.length->∃ a r,l.drop (jo p l)=a::r/\p a=false
 | [],h=>by simp at h
 | a::r,h=>by
  cases hp:p a with
  | false=>exact⟨a,r,by rw[oK hp];rfl,hp⟩
  | true=>
   have e:jo p (a::r)=jo p r+1:=by simp[jo,hp]
   rw[e] at h |-;simpa using vp r (by simpa using h)
theorem AD (w:World)(t:TypeId)(x y z:Value):oP (w.alloc (.cells #[x,y,z] t)) (w.heap.size+1) 3 (some ⟨w.heap.size,0,none⟩) 1 [x,y,z]:=by
 refine⟨rfl,fun _=>⟨_,rfl,by simp,fun j u D=>?_⟩⟩
 match j,D with
 | 0,D=>simp at D;subst D;simp[Addr.add]
 | 1,D=>simp at D;subst D;simp[Addr.add]
 | 2,D=>simp at D;subst D;simp[Addr.add]
 | j+3,D=>simp at D
end
def jF (n:Nat):LU:=if n<10 then [UInt8.ofNat (48+n)] else jF (n / 10)++[UInt8.ofNat (48+n % 10)]
termination_by n
decreasing_by omega
theorem nO (h:n<10):jF n=[UInt8.ofNat (48+n)]:=by rw[jF,if_pos h]
theorem tH (h:¬ n<10):jF n=jF (n / 10)++[UInt8.ofNat (48+n % 10)]:=by rw[jF,if_neg h]
theorem Ch (h:d<10):(UInt8.ofNat (48+d)).toNat=48+d:=by simp;omega
theorem Rg (h:d<10):jV (UInt8.ofNat (48+d))=true:=by unfold jV;rw[Ch h];exact dT (by omega)
theorem nz (n:Nat):(jF n).all jV=true:=by
 induction n using Nat.strongRecOn with
 | ind n ih=>
  by_cases h:n<10
  ·rw[nO h];simp only[List.all_cons,List.all_nil,Bool.and_true];exact Rg h
  ·rw[tH h,List.all_append,ih (n / 10) (by omega)];simp only[List.all_cons,List.all_nil,Bool.and_true,Bool.true_and];exact Rg (by omega)
theorem rB (n:Nat):jF n≠[]:=by
 by_cases h:n<10
 ·rw[nO h];simp
 ·rw[tH h];simp
theorem Mb (n:Nat):mA (jF n)=n:=by
 induction n using Nat.strongRecOn with
 | ind n ih=>
  by_cases h:n<10
  ·rw[nO h];unfold mA;simp only[List.foldl_cons,List.foldl_nil];rw[Ch h];omega
  ·rw[tH h,Ay,ih (n / 10) (by omega),Ch (by omega)];omega
theorem Ei (n:Nat):0<(jF n).length:=List.length_pos_iff.2 (rB n)
theorem Ih:∀ n:Nat,10<=n->(jF n).head?≠some 48:=by
 intro n
 induction n using Nat.strongRecOn with
 | ind n ih=>
  intro h;rw[tH (by omega)];by_cases y:n / 10<10
  ·rw[nO y];simp only[List.cons_append,List.head?_cons,ne_eq,Option.some.injEq];intro e;have:=congrArg UInt8.toNat e;rw[Ch y] at this;have z:(48:UInt8).toNat=48:=rfl;omega
  ·have:=ih (n / 10) (by omega) (by omega);cases e:jF (n / 10) with
   | nil=>exact absurd e (rB _)
   | cons a r=>rw[e] at this;exact this
theorem TL (n:Nat):wB (jF n)=true:=by
 unfold wB;rw[nz];have z:(jF n).isEmpty=false:=by cases h:jF n with | nil=>exact absurd h (rB n) | cons a r=>rfl
 rw[z];have y:(decide (1<(jF n).length)&&decide ((jF n).head?=some 48))=false:=by
  by_cases h:n<10
  ·rw[nO h];simp
  ·rw[dF (Ih n (by omega))];simp
 rw[y];rfl
theorem Pg (h:(n:Int)<=Cx):lI (jF n)=n/\ol (jF n)=0:=by
 have:=Ky (TL n) (by rw[Mb];exact h);rw[Mb] at this;exact this
theorem zI (n:Nat):sS (jF n)=true:=by
 unfold sS;rw[nz];cases h:jF n with | nil=>exact absurd h (rB n) | cons a r=>rfl
theorem YM (h:l.all jV=true){c:UInt8}(hc:jV c=false):c ∉ l:=by
 intro y;rw[List.all_eq_true] at h;rw[h c y] at hc;cases hc
theorem zJ (h:l.all jV=true)(hr:∀ c,r.head?=some c->jV c=false):jo jV (l++r)=l.length:=by
 unfold jo
 induction l with
 | nil=>
  cases r with
  | nil=>rfl
  | cons a t=>rw[List.nil_append,List.takeWhile_cons_of_neg (by rw[hr a rfl];simp)]
 | cons a t ih=>
  rw[List.all_cons,Bool.and_eq_true] at h;rw[List.cons_append,List.takeWhile_cons_of_pos h.1,List.length_cons,ih h.2,List.length_cons]
def lk (c:UInt8):LU->List (LU)
 | []=>[[]]
 | a::r=>if a=c then []::lk c r else ((a::(lk c r).headD [])::(lk c r).tail)
theorem Ii (c:UInt8):∀ l,lk c l≠[]
 | []=>by simp[lk]
 | a::r=>by unfold lk;split<;>simp
theorem zK (c:UInt8):∀ (l:LU),c ∉ l->lk c l=[l]
 | [],_=>rfl
 | a::r,h=>by
  have z:a≠c:=fun e=>h (by rw[e];simp);rw[lk,if_neg z,zK c r (fun y=>h (List.mem_cons_of_mem _ y))];rfl
theorem xf (c:UInt8):∀ (l r:LU),c ∉ l->lk c (l++c::r)=l::lk c r
 | [],r,_=>by rw[List.nil_append,lk,if_pos rfl]
 | a::t,r,h=>by
  have z:a≠c:=fun e=>h (by rw[e];simp);rw[List.cons_append,lk,if_neg z,xf c t r (fun y=>h (List.mem_cons_of_mem _ y))];rfl
def lL (c:UInt8):List (LU)->LU
 | []=>[]
 | [a]=>a
 | a::b::r=>a++c::lL c (b::r)
theorem yy (c:UInt8):∀ (L:List (LU)),L≠[]->(∀ l∈L,c ∉ l)->lk c (lL c L)=L
 | [],h,_=>absurd rfl h
 | [a],_,h=>zK c a (h a (by simp))
 | a::b::r,_,h=>by
  rw[lL,xf c a _ (h a (by simp)),yy c (b::r) (by simp) (fun l y=>h l (List.mem_cons_of_mem _ y))]
theorem xg (c:UInt8):∀ (L:List (LU))(a:LU),lL c (L++[a])=(if L=[] then [] else lL c L++[c])++a
 | [],a=>rfl
 | [b],a=>by simp[lL]
 | b::d::r,a=>by
  have:=xg c (d::r) a;simp only[List.cons_append] at this |-;rw[lL,this];simp[lL]
theorem zL (c:UInt8):∀ (L:List (LU))(x:UInt8),x∈lL c L->x=c\/∃ l∈L,x∈l
 | [],x,h=>by simp[lL] at h
 | [a],x,h=>.inr ⟨a,by simp,h⟩
 | a::b::r,x,h=>by
  rw[lL,List.mem_append,List.mem_cons] at h;rcases h with h | h | h
  ·exact .inr ⟨a,by simp,h⟩
  ·exact .inl h
  ·rcases zL c (b::r) x h with h | ⟨l,y,z⟩
   ·exact .inl h
   ·exact .inr ⟨l,List.mem_cons_of_mem _ y,z⟩
end Go.Proofs.YtkmjcombhjombaaGreatDoor
