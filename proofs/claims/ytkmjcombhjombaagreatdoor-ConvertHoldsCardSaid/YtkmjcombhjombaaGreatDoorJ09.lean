/- A part of the proof. -/
import Derived.Test.YtkmjcombhjombaaGreatDoorJ08
set_option maxRecDepth 100000
set_option maxHeartbeats 20000000
set_option linter.unusedVariables false
set_option linter.unusedSimpArgs false
namespace Go.Proofs.YtkmjcombhjombaaGreatDoor
variable{E s:BA}{c c':Int}{l r r1 r2 v:LU}{vs:LV}{a k lo n p p':Nat}{bad:Option Nat}{q:UInt8->Bool}{w w' wr:World}
open Go.Proofs.Tryz
section
open Go.RowKit Go.Deep
def abJ:BA:=⟨#[32,44,124,40,41,91,93]⟩
def abK:BA:=⟨#[32,44,124,40,41,91,93,58]⟩
def abL:BA:=⟨#[32,44,124,40,41,91,93,58,33]⟩
theorem nk (d:UInt8):(bl abJ).contains d=!tT d:=by
 have:=kf (fun c=>(bl abJ).contains c == !tT c) (by kernel_rfl) d;simpa using this
theorem Mp (d:UInt8):(bl abK).contains d=!vC d:=by
 have:=kf (fun c=>(bl abK).contains c == !vC c) (by kernel_rfl) d;simpa using this
theorem Dj (d:UInt8):(bl abL).contains d=!pH d:=by
 have:=kf (fun c=>(bl abL).contains c == !pH c) (by kernel_rfl) d;simpa using this
theorem lu {t:LU}(D:p<=s.size)(h:tt q ((bl s).drop p)=some (t,r)):t.length=fS q ((bl s).drop p)/\(bl s).drop (p+t.length)=r/\0<t.length/\p+t.length<=s.size:=by
 obtain⟨I,F,H⟩:=xy h;have z:t.length=fS q ((bl s).drop p):=by rw[F,List.length_take];have:=jI q ((bl s).drop p);omega
 have:=Uh q s p D;refine⟨z,?_,by omega,by omega⟩;rw[z,<-List.drop_drop,H]
theorem Xp (h:tt q l=none):fS q l=0:=by
 unfold tt at h;split at h
 ·assumption
 ·cases h
theorem jX (F:∀ d,(bl E).contains d=!q d)(a:Nat)(s:BA)(p n:Nat)(c:Int)(w:World)(J:s.size<=4294967280)(h:DR w a s p n c)(H:Hid (tt q ((bl s).drop p)=none)):Calls prog 244 #[.pointer (some ⟨a,0,none⟩),.string E] w fun e w'=>e=.returned (.tuple #[.string ⟨#[]⟩,.bool false])/\DR w' a s p n c/\w.grownBy w' (some a):=by
 refine(Di E q F a s p n c w J h).mono fun e w' ⟨D,z,I⟩=>?_;rw[Xp H.out] at D z;exact⟨D,z,I⟩
theorem jA (I:∀ d,(bl E).contains d=!q d)(t r:LU)(a:Nat)(s:BA)(p n:Nat)(c:Int)(w:World)(O:s.size<=4294967280)(h:DR w a s p n c)(D:Hid (tt q ((bl s).drop p)=some (t,r))):Calls prog 244 #[.pointer (some ⟨a,0,none⟩),.string E] w fun e w'=>e=.returned (.tuple #[.string (gX t),.bool true])/\DR w' a s (p+t.length) n c/\w.grownBy w' (some a):=by
 refine(Di E q I a s p n c w O h).mono fun e w' ⟨F,z,M⟩=>?_;obtain⟨K,U,X,R⟩:=lu h.le D.out;obtain⟨H,J,V⟩:=xy D.out;rw[<-J,dT H] at F;rw[<-K] at z;exact⟨F,z,M⟩
def Xq (t:LU)(a:Nat)(s:BA)(p n:Nat)(c:Int)(w:World)(e:Ending)(w':World):Prop:=
 e=.returned (.tuple #[.string (gX t),.bool true])/\(∃ c',DR w' a s (p+t.length) n c'/\(c'=0↔c=0/\kH t=true))/\w.grownBy w' (some a)
theorem py (a:Nat)(s:BA)(p n:Nat)(c:Int)(w:World)(I:s.size<=4294967280)(h:DR w a s p n c)(H:Hid (tt pH ((bl s).drop p)=none)):Calls prog 246 #[.pointer (some ⟨a,0,none⟩)] w fun e w'=>e=.returned (.tuple #[.string ⟨#[]⟩,.bool false])/\DR w' a s p n c/\w.grownBy w' (some a):=by
 obtain⟨f,y,k⟩:=h.cells;have O:=k.c1;have K:=fH h;go_in;go_wp2_with fail;refine(jX Dj a s p n c w I K H).mono ?_;rintro e M ⟨rfl,F,J⟩;have D:=fH F;have z:=fH J;go_wp2;go_ret2;exact⟨rfl,D,z⟩
theorem pB (t r:LU)(a:Nat)(s:BA)(p n:Nat)(c:Int)(w:World)(U:s.size<=4294967280)(h:DR w a s p n c)(M:Hid (tt pH ((bl s).drop p)=some (t,r))):Calls prog 246 #[.pointer (some ⟨a,0,none⟩)] w (Xq t a s p n c w):=by
 obtain⟨f,y,k⟩:=h.cells;have Y:=k.c1;have Z:(gX t).size<=s.size:=by have:=(lu h.le M).2.2.2;rw[iB];omega
 have V:=fH h;have I:=fun W=>yX (gX t) W (by omega);rw[iS] at I;cases z:kH t with
 | true=>
  rw[z] at I;have O:=fH z;go_in;go_wp2_with fail;refine(jA Dj t r a s p n c w U V M).mono ?_;rintro e R ⟨rfl,z,H⟩;have F:=fH z;have D:=fH H;go_wp2_with fail;refine mb (I _) ?_;rintro X rfl;go_wp2;go_ret2;exact⟨rfl,⟨c,F,by simp[O.out]⟩,D⟩
 | false=>
  rw[z] at I;have O:=fH z;go_in;go_wp2_with fail;refine(jA Dj t r a s p n c w U V M).mono ?_;rintro e R ⟨rfl,z,H⟩;have F:=fH z;have D:=fH H;go_wp2_with fail;refine mb (I _) ?_;rintro X rfl;go_wp2_with fail;refine(nG _ 10 a s _ n c R F).mono ?_;rintro e w2 ⟨rfl,z,H⟩;have J:=fH z;have K:=fH H;go_wp2;go_ret2;exact⟨rfl,⟨_,J,by rw[mC,O.out];simp⟩,fN D K⟩
def yY (a:Nat)(w:World):Prop:=∃ w0,Gl w0/\Bw w0 w/\w0.heap.size<=a
theorem yY.gl (h:yY a w):Gl w:=by obtain⟨F,z,D,_⟩:=h;exact z.below D
theorem yY.kept (h:yY a w)(I:w.grownBy w' (some a)):yY a w':=by
 obtain⟨H,F,D,z⟩:=h;exact⟨H,F,kP D I z,z⟩
theorem yY.below (h:yY a w)(I:Bw w w'):yY a w':=by
 obtain⟨F,D,z,H⟩:=h;exact⟨F,D,fM z I,H⟩
def iE (r:Option (Nat×LU×LU))(a:Nat)(s:BA)(p n:Nat)(c:Int)(w:World)(e:Ending)(w':World):Prop:=
 w.grownBy w' (some a)/\match r with
  | none=>e=.returned (.tuple #[.int .i64 0,.string ⟨#[]⟩,.bool false])/\∃ p' c',DR w' a s p' n c'
  | some (op,v,r)=>e=.returned (.tuple #[.int .i64 op,.string (gX v),.bool true])/\∃ p' c',p<=p'/\DR w' a s p' n c'/\(bl s).drop p'=r/\(c'=0↔c=0/\gL 1 (gX v)=0)
theorem iE.no {r:Option (Nat×LU×LU)}(D:r=none)(z:w.grownBy w' (some a))(h:DR w' a s p' n c'):iE r a s p n c w (.returned (.tuple #[.int .i64 0,.string ⟨#[]⟩,.bool false])) w':=by
 subst D;exact⟨z,rfl,_,_,h⟩
theorem iE.yes {r:Option (Nat×LU×LU)}{op:Nat}{r':LU}(F:r=some (op,v,r'))(H:w.grownBy w' (some a))(h:DR w' a s p' n c')(D:p<=p')(z:(bl s).drop p'=r')(I:c'=0↔c=0/\gL 1 (gX v)=0):iE r a s p n c w (.returned (.tuple #[.int .i64 op,.string (gX v),.bool true])) w':=by
 subst F;exact⟨H,rfl,_,_,D,h,z,I⟩
theorem rR {op:Nat}(h:tt tT (gm l)=none):jn op l=none:=by unfold jn;rw[h];split<;>rfl
theorem rS {op:Nat}(z:op≠0)(h:tt tT (gm l)=some (v,r)):jn op l=re op v r:=by unfold jn;rw[if_neg z,h]
theorem xD {op:Nat}(h:fY 41 (gm r)=false):re op v r=none:=by unfold re;rw[h];rfl
theorem tV {op:Nat}(h:fY 41 (gm r)=true):re op v r=some (op,v,gm ((gm r).drop 1)):=by unfold re;rw[h];rfl
theorem Bo (a:Nat)(s:BA)(p n q:Nat)(c:Int)(w:World)(I:s.size<=4294967280)(hG:yY a w)(h:DR w a s p n c)(hq:p+fS gT ((bl s).drop p)=q)
  (H0:Hid (fY 61 ((bl s).drop q)=true)):Calls prog 247 #[.pointer (some ⟨a,0,none⟩)] w (iE (jn 3 ((bl s).drop (q+1))) a s p n c w):=by
 have hB:=gy a s p n c w I h;rw[hq] at hB;have HQ:Hid (p<=q):=by show _<=_;omega
 have HG:=fH hG;go_in;go_wp2_with fail;refine hB.mono ?_;rintro e w1 ⟨rfl,z,D⟩;have D1:=fH z;have G1:=fH D;go_wp2_with fail;refine(gK 61 a s q n c w1 I D1 H0).mono ?_;rintro e w2 ⟨rfl,z,D⟩;have D2:=fH z;have G2:=fH (fN G1 D);obtain⟨Y,O⟩:∃ Y,(q+1)=Y:=⟨_,rfl⟩
 obtain⟨F,U⟩:∃ F,Y+fS gT ((bl s).drop Y)=F:=⟨_,rfl⟩
 rw[O] at D2;have aa:Hid (p<=F):=by have:=HQ.out;show _<=_;omega
 have SK:Hid (gm ((bl s).drop (q+1))=(bl s).drop F):=by show _=_;rw[O,jh,U]
 have V:=gy a s Y n c w2 I D2.out;rw[U] at V;go_wp2_with fail;refine V.mono ?_;rintro e v1 ⟨rfl,z,D⟩;have E1:=fH z;have K1:=fH (fN G2 D);obtain⟨f,y,k⟩:=E1.cells;have c1:=k.c1;cases ht:tt tT ((bl s).drop F) with
 | none=>
  have HT:=fH ht;have Z:Hid (jn 3 ((bl s).drop (q+1))=none):=rR (by rw[SK.out];exact ht);go_wp2_with fail;refine(jX nk a s F n c v1 I E1 HT).mono ?_;rintro e v2 ⟨rfl,z,D⟩;have E2:=fH z;have K2:=fH (fN K1 D);go_wp2;go_ret3;exact iE.no Z K2 E2.out
 | some x=>
  obtain⟨v,r⟩:=x;have HT:=fH ht;obtain⟨t1,t2,t3,t4⟩:=lu E1.le ht;have Z:Hid (jn 3 ((bl s).drop (q+1))=re 3 v r):=rS (by decide) (by rw[SK.out];exact ht);have ad:(gX v).size<=4294967280:=by rw[iB];omega
  obtain⟨H,X⟩:∃ H,F+v.length+fS gT ((bl s).drop (F+v.length))=H:=⟨_,rfl⟩
  have J:Hid (gm r=(bl s).drop H):=by show _=_;rw[<-t2,jh,X]
  have ac:Hid (p<=H):=by have:=aa.out;show _<=_;omega
  have R:=fH (fun (c':Int) (W:World) (hD:DR W a s (F+v.length) n c')=>gy a s (F+v.length) n c' W I hD);rw[X] at R;go_wp2_with fail;refine(jA nk v r a s F n c v1 I E1 HT).mono ?_;rintro e v2 ⟨rfl,z,D⟩;have E2:=fH z;have K2:=fH (fN K1 D);go_wp2_with fail;refine mb (gP 1 (gX v) _ (HG.kept K2).gl (by omega)) ?_;rintro v3 hb;have E3:=fH (E2.below hb);have K3:=fH (iu K2 hb);go_wp2_with fail;refine(nG _ _ a s _ n c v3 E3).mono ?_;rintro e v4 ⟨rfl,z,D⟩;have E4:=fH z;have K4:=fH (fN K3 D);have NC:=fH (mC c (gL 1 (gX v)));generalize rg c (gL 1 (gX v))=c' at E4 NC;go_wp2_with fail;refine(R c' v4 E4).mono ?_;rintro e v5 ⟨rfl,z,D⟩;have E5:=fH z;have K5:=fH (fN K4 D);cases hh:fY 41 ((bl s).drop H) with
  | false=>
   have HH:=fH hh;have EM:Hid (jn 3 ((bl s).drop (q+1))=none):=by show _=_;rw[Z.out];exact xD (by rw[J.out];exact hh)
   go_wp2_with fail;refine(gt 41 a s H n c' v5 I E5 HH).mono ?_;rintro e v6 ⟨rfl,z,D⟩;have E6:=fH z;have K6:=fH (fN K5 D);go_wp2;go_ret3;exact iE.no EM K6 E6.out
  | true=>
   have HH:=fH hh;obtain⟨q5,M⟩:∃ q5,H+1+fS gT ((bl s).drop (H+1))=q5:=⟨_,rfl⟩
   have EM:Hid (jn 3 ((bl s).drop (q+1))=some (3,v,(bl s).drop q5)):=by
    show _=_;rw[Z.out,tV (by rw[J.out];exact hh),J.out,List.drop_drop,jh,M]
   have K:=fH (fun (W:World) (hD:DR W a s (H+1) n c')=>gy a s (H+1) n c' W I hD);rw[M] at K;have ab:Hid (p<=q5):=by have:=ac.out;show _<=_;omega
   go_wp2_with fail;refine(gK 41 a s H n c' v5 I E5 HH).mono ?_;rintro e v6 ⟨rfl,z,D⟩;have E6:=fH z;have K6:=fH (fN K5 D);go_wp2_with fail;refine(K v6 E6).mono ?_;rintro e v7 ⟨rfl,z,D⟩;have E7:=fH z;have K7:=fH (fN K6 D);go_wp2;go_ret3;exact iE.yes EM K7 E7 ab rfl NC.out
theorem Bp (a:Nat)(s:BA)(p n q:Nat)(c:Int)(w:World)(H:s.size<=4294967280)(hG:yY a w)(h:DR w a s p n c)(hq:p+fS gT ((bl s).drop p)=q)
  (H0:Hid (fY 61 ((bl s).drop q)=false))(H1:Hid (fY 60 ((bl s).drop q)=true))(H2:Hid (fY 60 ((bl s).drop (q+1))=true)):Calls prog 247 #[.pointer (some ⟨a,0,none⟩)] w (iE (jn 1 ((bl s).drop (q+2))) a s p n c w):=by
 have hB:=gy a s p n c w H h;rw[hq] at hB;have HQ:Hid (p<=q):=by show _<=_;omega
 have HG:=fH hG;go_in;go_wp2_with fail;refine hB.mono ?_;rintro e w1 ⟨rfl,D,z⟩;have D1:=fH D;have G1:=fH z;go_wp2_with fail;refine(gt 61 a s q n c w1 H D1 H0).mono ?_;rintro e w2 ⟨rfl,D,z⟩;have D2:=fH D;have G2:=fH (fN G1 z);go_wp2_with fail;refine(gK 60 a s q n c w2 H D2 H1).mono ?_;rintro e w3 ⟨rfl,D,z⟩;have D3:=fH D;have G3:=fH (fN G2 z);go_wp2_with fail;refine(gK 60 a s (q+1) n c w3 H D3 H2).mono ?_;rintro e w4 ⟨rfl,D,z⟩;have D4:=fH D;have G4:=fH (fN G3 z);obtain⟨V,R⟩:∃ V,(q+2)=V:=⟨_,rfl⟩
 obtain⟨F,K⟩:∃ F,V+fS gT ((bl s).drop V)=F:=⟨_,rfl⟩
 rw[R] at D4;have ab:Hid (p<=F):=by have:=HQ.out;show _<=_;omega
 have SK:Hid (gm ((bl s).drop (q+2))=(bl s).drop F):=by show _=_;rw[R,jh,K]
 have M:=gy a s V n c w4 H D4.out;rw[K] at M;go_wp2_with fail;refine M.mono ?_;rintro e v1 ⟨rfl,D,z⟩;have E1:=fH D;have K1:=fH (fN G4 z);obtain⟨f,y,k⟩:=E1.cells;have c1:=k.c1;cases ht:tt tT ((bl s).drop F) with
 | none=>
  have HT:=fH ht;have Z:Hid (jn 1 ((bl s).drop (q+2))=none):=rR (by rw[SK.out];exact ht);go_wp2_with fail;refine(jX nk a s F n c v1 H E1 HT).mono ?_;rintro e v2 ⟨rfl,D,z⟩;have E2:=fH D;have K2:=fH (fN K1 z);go_wp2;go_ret3;exact iE.no Z K2 E2.out
 | some x=>
  obtain⟨v,r⟩:=x;have HT:=fH ht;obtain⟨t1,t2,t3,t4⟩:=lu E1.le ht;have Z:Hid (jn 1 ((bl s).drop (q+2))=re 1 v r):=rS (by decide) (by rw[SK.out];exact ht);have ad:(gX v).size<=4294967280:=by rw[iB];omega
  obtain⟨I,O⟩:∃ I,F+v.length+fS gT ((bl s).drop (F+v.length))=I:=⟨_,rfl⟩
  have J:Hid (gm r=(bl s).drop I):=by show _=_;rw[<-t2,jh,O]
  have ac:Hid (p<=I):=by have:=ab.out;show _<=_;omega
  have U:=fH (fun (c':Int) (W:World) (hD:DR W a s (F+v.length) n c')=>gy a s (F+v.length) n c' W H hD);rw[O] at U;go_wp2_with fail;refine(jA nk v r a s F n c v1 H E1 HT).mono ?_;rintro e v2 ⟨rfl,D,z⟩;have E2:=fH D;have K2:=fH (fN K1 z);go_wp2_with fail;refine mb (gP 1 (gX v) _ (HG.kept K2).gl (by omega)) ?_;rintro v3 hb;have E3:=fH (E2.below hb);have K3:=fH (iu K2 hb);go_wp2_with fail;refine(nG _ _ a s _ n c v3 E3).mono ?_;rintro e v4 ⟨rfl,D,z⟩;have E4:=fH D;have K4:=fH (fN K3 z);have NC:=fH (mC c (gL 1 (gX v)));generalize rg c (gL 1 (gX v))=c' at E4 NC;go_wp2_with fail;refine(U c' v4 E4).mono ?_;rintro e v5 ⟨rfl,D,z⟩;have E5:=fH D;have K5:=fH (fN K4 z);cases hh:fY 41 ((bl s).drop I) with
  | false=>
   have HH:=fH hh;have EM:Hid (jn 1 ((bl s).drop (q+2))=none):=by show _=_;rw[Z.out];exact xD (by rw[J.out];exact hh)
   go_wp2_with fail;refine(gt 41 a s I n c' v5 H E5 HH).mono ?_;rintro e v6 ⟨rfl,D,z⟩;have E6:=fH D;have K6:=fH (fN K5 z);go_wp2;go_ret3;exact iE.no EM K6 E6.out
  | true=>
   have HH:=fH hh;obtain⟨q5,Y⟩:∃ q5,I+1+fS gT ((bl s).drop (I+1))=q5:=⟨_,rfl⟩
   have EM:Hid (jn 1 ((bl s).drop (q+2))=some (1,v,(bl s).drop q5)):=by
    show _=_;rw[Z.out,tV (by rw[J.out];exact hh),J.out,List.drop_drop,jh,Y]
   have X:=fH (fun (W:World) (hD:DR W a s (I+1) n c')=>gy a s (I+1) n c' W H hD);rw[Y] at X;have aa:Hid (p<=q5):=by have:=ac.out;show _<=_;omega
   go_wp2_with fail;refine(gK 41 a s I n c' v5 H E5 HH).mono ?_;rintro e v6 ⟨rfl,D,z⟩;have E6:=fH D;have K6:=fH (fN K5 z);go_wp2_with fail;refine(X v6 E6).mono ?_;rintro e v7 ⟨rfl,D,z⟩;have E7:=fH D;have K7:=fH (fN K6 z);go_wp2;go_ret3;exact iE.yes EM K7 E7 aa rfl NC.out
theorem Bq (a:Nat)(s:BA)(p n q:Nat)(c:Int)(w:World)(F:s.size<=4294967280)(hG:yY a w)(h:DR w a s p n c)(hq:p+fS gT ((bl s).drop p)=q)
  (H0:Hid (fY 61 ((bl s).drop q)=false))(H1:Hid (fY 60 ((bl s).drop q)=true))(H2:Hid (fY 60 ((bl s).drop (q+1))=false))(H3:Hid (fY 61 ((bl s).drop (q+1))=true)):Calls prog 247 #[.pointer (some ⟨a,0,none⟩)] w (iE (jn 2 ((bl s).drop (q+2))) a s p n c w):=by
 have hB:=gy a s p n c w F h;rw[hq] at hB;have HQ:Hid (p<=q):=by show _<=_;omega
 have HG:=fH hG;go_in;go_wp2_with fail;refine hB.mono ?_;rintro e w1 ⟨rfl,D,z⟩;have D1:=fH D;have G1:=fH z;go_wp2_with fail;refine(gt 61 a s q n c w1 F D1 H0).mono ?_;rintro e w2 ⟨rfl,D,z⟩;have D2:=fH D;have G2:=fH (fN G1 z);go_wp2_with fail;refine(gK 60 a s q n c w2 F D2 H1).mono ?_;rintro e w3 ⟨rfl,D,z⟩;have D3:=fH D;have G3:=fH (fN G2 z);go_wp2_with fail;refine(gt 60 a s (q+1) n c w3 F D3 H2).mono ?_;rintro e w4 ⟨rfl,D,z⟩;have D4:=fH D;have G4:=fH (fN G3 z);go_wp2_with fail;refine(gK 61 a s (q+1) n c w4 F D4 H3).mono ?_;rintro e w5 ⟨rfl,D,z⟩;have D5:=fH D;have G5:=fH (fN G4 z);obtain⟨V,R⟩:∃ V,(q+2)=V:=⟨_,rfl⟩
 obtain⟨H,K⟩:∃ H,V+fS gT ((bl s).drop V)=H:=⟨_,rfl⟩
 rw[R] at D5;have ab:Hid (p<=H):=by have:=HQ.out;show _<=_;omega
 have SK:Hid (gm ((bl s).drop (q+2))=(bl s).drop H):=by show _=_;rw[R,jh,K]
 have M:=gy a s V n c w5 F D5.out;rw[K] at M;go_wp2_with fail;refine M.mono ?_;rintro e v1 ⟨rfl,D,z⟩;have E1:=fH D;have K1:=fH (fN G5 z);obtain⟨f,y,k⟩:=E1.cells;have c1:=k.c1;cases ht:tt tT ((bl s).drop H) with
 | none=>
  have HT:=fH ht;have Z:Hid (jn 2 ((bl s).drop (q+2))=none):=rR (by rw[SK.out];exact ht);go_wp2_with fail;refine(jX nk a s H n c v1 F E1 HT).mono ?_;rintro e v2 ⟨rfl,D,z⟩;have E2:=fH D;have K2:=fH (fN K1 z);go_wp2;go_ret3;exact iE.no Z K2 E2.out
 | some x=>
  obtain⟨v,r⟩:=x;have HT:=fH ht;obtain⟨t1,t2,t3,t4⟩:=lu E1.le ht;have Z:Hid (jn 2 ((bl s).drop (q+2))=re 2 v r):=rS (by decide) (by rw[SK.out];exact ht);have ad:(gX v).size<=4294967280:=by rw[iB];omega
  obtain⟨I,O⟩:∃ I,H+v.length+fS gT ((bl s).drop (H+v.length))=I:=⟨_,rfl⟩
  have J:Hid (gm r=(bl s).drop I):=by show _=_;rw[<-t2,jh,O]
  have ac:Hid (p<=I):=by have:=ab.out;show _<=_;omega
  have U:=fH (fun (c':Int) (W:World) (hD:DR W a s (H+v.length) n c')=>gy a s (H+v.length) n c' W F hD);rw[O] at U;go_wp2_with fail;refine(jA nk v r a s H n c v1 F E1 HT).mono ?_;rintro e v2 ⟨rfl,D,z⟩;have E2:=fH D;have K2:=fH (fN K1 z);go_wp2_with fail;refine mb (gP 1 (gX v) _ (HG.kept K2).gl (by omega)) ?_;rintro v3 hb;have E3:=fH (E2.below hb);have K3:=fH (iu K2 hb);go_wp2_with fail;refine(nG _ _ a s _ n c v3 E3).mono ?_;rintro e v4 ⟨rfl,D,z⟩;have E4:=fH D;have K4:=fH (fN K3 z);have NC:=fH (mC c (gL 1 (gX v)));generalize rg c (gL 1 (gX v))=c' at E4 NC;go_wp2_with fail;refine(U c' v4 E4).mono ?_;rintro e v5 ⟨rfl,D,z⟩;have E5:=fH D;have K5:=fH (fN K4 z);cases hh:fY 41 ((bl s).drop I) with
  | false=>
   have HH:=fH hh;have EM:Hid (jn 2 ((bl s).drop (q+2))=none):=by show _=_;rw[Z.out];exact xD (by rw[J.out];exact hh)
   go_wp2_with fail;refine(gt 41 a s I n c' v5 F E5 HH).mono ?_;rintro e v6 ⟨rfl,D,z⟩;have E6:=fH D;have K6:=fH (fN K5 z);go_wp2;go_ret3;exact iE.no EM K6 E6.out
  | true=>
   have HH:=fH hh;obtain⟨q5,Y⟩:∃ q5,I+1+fS gT ((bl s).drop (I+1))=q5:=⟨_,rfl⟩
   have EM:Hid (jn 2 ((bl s).drop (q+2))=some (2,v,(bl s).drop q5)):=by
    show _=_;rw[Z.out,tV (by rw[J.out];exact hh),J.out,List.drop_drop,jh,Y]
   have X:=fH (fun (W:World) (hD:DR W a s (I+1) n c')=>gy a s (I+1) n c' W F hD);rw[Y] at X;have aa:Hid (p<=q5):=by have:=ac.out;show _<=_;omega
   go_wp2_with fail;refine(gK 41 a s I n c' v5 F E5 HH).mono ?_;rintro e v6 ⟨rfl,D,z⟩;have E6:=fH D;have K6:=fH (fN K5 z);go_wp2_with fail;refine(X v6 E6).mono ?_;rintro e v7 ⟨rfl,D,z⟩;have E7:=fH D;have K7:=fH (fN K6 z);go_wp2;go_ret3;exact iE.yes EM K7 E7 aa rfl NC.out
theorem Br (a:Nat)(s:BA)(p n q:Nat)(c:Int)(w:World)(F:s.size<=4294967280)(hG:yY a w)(h:DR w a s p n c)(hq:p+fS gT ((bl s).drop p)=q)
  (H0:Hid (fY 61 ((bl s).drop q)=false))(H1:Hid (fY 60 ((bl s).drop q)=false))(H2:Hid (fY 62 ((bl s).drop q)=true))(H3:Hid (fY 62 ((bl s).drop (q+1))=true)):Calls prog 247 #[.pointer (some ⟨a,0,none⟩)] w (iE (jn 5 ((bl s).drop (q+2))) a s p n c w):=by
 have hB:=gy a s p n c w F h;rw[hq] at hB;have HQ:Hid (p<=q):=by show _<=_;omega
 have HG:=fH hG;go_in;go_wp2_with fail;refine hB.mono ?_;rintro e w1 ⟨rfl,D,z⟩;have D1:=fH D;have G1:=fH z;go_wp2_with fail;refine(gt 61 a s q n c w1 F D1 H0).mono ?_;rintro e w2 ⟨rfl,D,z⟩;have D2:=fH D;have G2:=fH (fN G1 z);go_wp2_with fail;refine(gt 60 a s q n c w2 F D2 H1).mono ?_;rintro e w3 ⟨rfl,D,z⟩;have D3:=fH D;have G3:=fH (fN G2 z);go_wp2_with fail;refine(gK 62 a s q n c w3 F D3 H2).mono ?_;rintro e w4 ⟨rfl,D,z⟩;have D4:=fH D;have G4:=fH (fN G3 z);go_wp2_with fail;refine(gK 62 a s (q+1) n c w4 F D4 H3).mono ?_;rintro e w5 ⟨rfl,D,z⟩;have D5:=fH D;have G5:=fH (fN G4 z);obtain⟨V,R⟩:∃ V,(q+2)=V:=⟨_,rfl⟩
 obtain⟨H,K⟩:∃ H,V+fS gT ((bl s).drop V)=H:=⟨_,rfl⟩
 rw[R] at D5;have ab:Hid (p<=H):=by have:=HQ.out;show _<=_;omega
 have SK:Hid (gm ((bl s).drop (q+2))=(bl s).drop H):=by show _=_;rw[R,jh,K]
 have M:=gy a s V n c w5 F D5.out;rw[K] at M;go_wp2_with fail;refine M.mono ?_;rintro e v1 ⟨rfl,D,z⟩;have E1:=fH D;have K1:=fH (fN G5 z);obtain⟨f,y,k⟩:=E1.cells;have c1:=k.c1;cases ht:tt tT ((bl s).drop H) with
 | none=>
  have HT:=fH ht;have Z:Hid (jn 5 ((bl s).drop (q+2))=none):=rR (by rw[SK.out];exact ht);go_wp2_with fail;refine(jX nk a s H n c v1 F E1 HT).mono ?_;rintro e v2 ⟨rfl,D,z⟩;have E2:=fH D;have K2:=fH (fN K1 z);go_wp2;go_ret3;exact iE.no Z K2 E2.out
 | some x=>
  obtain⟨v,r⟩:=x;have HT:=fH ht;obtain⟨t1,t2,t3,t4⟩:=lu E1.le ht;have Z:Hid (jn 5 ((bl s).drop (q+2))=re 5 v r):=rS (by decide) (by rw[SK.out];exact ht);have ad:(gX v).size<=4294967280:=by rw[iB];omega
  obtain⟨I,O⟩:∃ I,H+v.length+fS gT ((bl s).drop (H+v.length))=I:=⟨_,rfl⟩
  have J:Hid (gm r=(bl s).drop I):=by show _=_;rw[<-t2,jh,O]
  have ac:Hid (p<=I):=by have:=ab.out;show _<=_;omega
  have U:=fH (fun (c':Int) (W:World) (hD:DR W a s (H+v.length) n c')=>gy a s (H+v.length) n c' W F hD);rw[O] at U;go_wp2_with fail;refine(jA nk v r a s H n c v1 F E1 HT).mono ?_;rintro e v2 ⟨rfl,D,z⟩;have E2:=fH D;have K2:=fH (fN K1 z);go_wp2_with fail;refine mb (gP 1 (gX v) _ (HG.kept K2).gl (by omega)) ?_;rintro v3 hb;have E3:=fH (E2.below hb);have K3:=fH (iu K2 hb);go_wp2_with fail;refine(nG _ _ a s _ n c v3 E3).mono ?_;rintro e v4 ⟨rfl,D,z⟩;have E4:=fH D;have K4:=fH (fN K3 z);have NC:=fH (mC c (gL 1 (gX v)));generalize rg c (gL 1 (gX v))=c' at E4 NC;go_wp2_with fail;refine(U c' v4 E4).mono ?_;rintro e v5 ⟨rfl,D,z⟩;have E5:=fH D;have K5:=fH (fN K4 z);cases hh:fY 41 ((bl s).drop I) with
  | false=>
   have HH:=fH hh;have EM:Hid (jn 5 ((bl s).drop (q+2))=none):=by show _=_;rw[Z.out];exact xD (by rw[J.out];exact hh)
   go_wp2_with fail;refine(gt 41 a s I n c' v5 F E5 HH).mono ?_;rintro e v6 ⟨rfl,D,z⟩;have E6:=fH D;have K6:=fH (fN K5 z);go_wp2;go_ret3;exact iE.no EM K6 E6.out
  | true=>
   have HH:=fH hh;obtain⟨q5,Y⟩:∃ q5,I+1+fS gT ((bl s).drop (I+1))=q5:=⟨_,rfl⟩
   have EM:Hid (jn 5 ((bl s).drop (q+2))=some (5,v,(bl s).drop q5)):=by
    show _=_;rw[Z.out,tV (by rw[J.out];exact hh),J.out,List.drop_drop,jh,Y]
   have X:=fH (fun (W:World) (hD:DR W a s (I+1) n c')=>gy a s (I+1) n c' W F hD);rw[Y] at X;have aa:Hid (p<=q5):=by have:=ac.out;show _<=_;omega
   go_wp2_with fail;refine(gK 41 a s I n c' v5 F E5 HH).mono ?_;rintro e v6 ⟨rfl,D,z⟩;have E6:=fH D;have K6:=fH (fN K5 z);go_wp2_with fail;refine(X v6 E6).mono ?_;rintro e v7 ⟨rfl,D,z⟩;have E7:=fH D;have K7:=fH (fN K6 z);go_wp2;go_ret3;exact iE.yes EM K7 E7 aa rfl NC.out
theorem Bs (a:Nat)(s:BA)(p n q:Nat)(c:Int)(w:World)(F:s.size<=4294967280)(hG:yY a w)(h:DR w a s p n c)(hq:p+fS gT ((bl s).drop p)=q)
  (H0:Hid (fY 61 ((bl s).drop q)=false))(H1:Hid (fY 60 ((bl s).drop q)=false))(H2:Hid (fY 62 ((bl s).drop q)=true))(H3:Hid (fY 62 ((bl s).drop (q+1))=false))(H4:Hid (fY 61 ((bl s).drop (q+1))=true)):Calls prog 247 #[.pointer (some ⟨a,0,none⟩)] w (iE (jn 4 ((bl s).drop (q+2))) a s p n c w):=by
 have hB:=gy a s p n c w F h;rw[hq] at hB;have HQ:Hid (p<=q):=by show _<=_;omega
 have HG:=fH hG;go_in;go_wp2_with fail;refine hB.mono ?_;rintro e w1 ⟨rfl,D,z⟩;have D1:=fH D;have G1:=fH z;go_wp2_with fail;refine(gt 61 a s q n c w1 F D1 H0).mono ?_;rintro e w2 ⟨rfl,D,z⟩;have D2:=fH D;have G2:=fH (fN G1 z);go_wp2_with fail;refine(gt 60 a s q n c w2 F D2 H1).mono ?_;rintro e w3 ⟨rfl,D,z⟩;have D3:=fH D;have G3:=fH (fN G2 z);go_wp2_with fail;refine(gK 62 a s q n c w3 F D3 H2).mono ?_;rintro e w4 ⟨rfl,D,z⟩;have D4:=fH D;have G4:=fH (fN G3 z);go_wp2_with fail;refine(gt 62 a s (q+1) n c w4 F D4 H3).mono ?_;rintro e w5 ⟨rfl,D,z⟩;have D5:=fH D;have G5:=fH (fN G4 z);go_wp2_with fail;refine(gK 61 a s (q+1) n c w5 F D5 H4).mono ?_;rintro e w6 ⟨rfl,D,z⟩;have D6:=fH D;have G6:=fH (fN G5 z);obtain⟨V,R⟩:∃ V,(q+2)=V:=⟨_,rfl⟩
 obtain⟨H,K⟩:∃ H,V+fS gT ((bl s).drop V)=H:=⟨_,rfl⟩
 rw[R] at D6;have ab:Hid (p<=H):=by have:=HQ.out;show _<=_;omega
 have SK:Hid (gm ((bl s).drop (q+2))=(bl s).drop H):=by show _=_;rw[R,jh,K]
 have M:=gy a s V n c w6 F D6.out;rw[K] at M;go_wp2_with fail;refine M.mono ?_;rintro e v1 ⟨rfl,D,z⟩;have E1:=fH D;have K1:=fH (fN G6 z);obtain⟨f,y,k⟩:=E1.cells;have c1:=k.c1;cases ht:tt tT ((bl s).drop H) with
 | none=>
  have HT:=fH ht;have Z:Hid (jn 4 ((bl s).drop (q+2))=none):=rR (by rw[SK.out];exact ht);go_wp2_with fail;refine(jX nk a s H n c v1 F E1 HT).mono ?_;rintro e v2 ⟨rfl,D,z⟩;have E2:=fH D;have K2:=fH (fN K1 z);go_wp2;go_ret3;exact iE.no Z K2 E2.out
 | some x=>
  obtain⟨v,r⟩:=x;have HT:=fH ht;obtain⟨t1,t2,t3,t4⟩:=lu E1.le ht;have Z:Hid (jn 4 ((bl s).drop (q+2))=re 4 v r):=rS (by decide) (by rw[SK.out];exact ht);have ad:(gX v).size<=4294967280:=by rw[iB];omega
  obtain⟨I,O⟩:∃ I,H+v.length+fS gT ((bl s).drop (H+v.length))=I:=⟨_,rfl⟩
  have J:Hid (gm r=(bl s).drop I):=by show _=_;rw[<-t2,jh,O]
  have ac:Hid (p<=I):=by have:=ab.out;show _<=_;omega
  have U:=fH (fun (c':Int) (W:World) (hD:DR W a s (H+v.length) n c')=>gy a s (H+v.length) n c' W F hD);rw[O] at U;go_wp2_with fail;refine(jA nk v r a s H n c v1 F E1 HT).mono ?_;rintro e v2 ⟨rfl,D,z⟩;have E2:=fH D;have K2:=fH (fN K1 z);go_wp2_with fail;refine mb (gP 1 (gX v) _ (HG.kept K2).gl (by omega)) ?_;rintro v3 hb;have E3:=fH (E2.below hb);have K3:=fH (iu K2 hb);go_wp2_with fail;refine(nG _ _ a s _ n c v3 E3).mono ?_;rintro e v4 ⟨rfl,D,z⟩;have E4:=fH D;have K4:=fH (fN K3 z);have NC:=fH (mC c (gL 1 (gX v)));generalize rg c (gL 1 (gX v))=c' at E4 NC;go_wp2_with fail;refine(U c' v4 E4).mono ?_;rintro e v5 ⟨rfl,D,z⟩;have E5:=fH D;have K5:=fH (fN K4 z);cases hh:fY 41 ((bl s).drop I) with
  | false=>
   have HH:=fH hh;have EM:Hid (jn 4 ((bl s).drop (q+2))=none):=by show _=_;rw[Z.out];exact xD (by rw[J.out];exact hh)
   go_wp2_with fail;refine(gt 41 a s I n c' v5 F E5 HH).mono ?_;rintro e v6 ⟨rfl,D,z⟩;have E6:=fH D;have K6:=fH (fN K5 z);go_wp2;go_ret3;exact iE.no EM K6 E6.out
  | true=>
   have HH:=fH hh;obtain⟨q5,Y⟩:∃ q5,I+1+fS gT ((bl s).drop (I+1))=q5:=⟨_,rfl⟩
   have EM:Hid (jn 4 ((bl s).drop (q+2))=some (4,v,(bl s).drop q5)):=by
    show _=_;rw[Z.out,tV (by rw[J.out];exact hh),J.out,List.drop_drop,jh,Y]
   have X:=fH (fun (W:World) (hD:DR W a s (I+1) n c')=>gy a s (I+1) n c' W F hD);rw[Y] at X;have aa:Hid (p<=q5):=by have:=ac.out;show _<=_;omega
   go_wp2_with fail;refine(gK 41 a s I n c' v5 F E5 HH).mono ?_;rintro e v6 ⟨rfl,D,z⟩;have E6:=fH D;have K6:=fH (fN K5 z);go_wp2_with fail;refine(X v6 E6).mono ?_;rintro e v7 ⟨rfl,D,z⟩;have E7:=fH D;have K7:=fH (fN K6 z);go_wp2;go_ret3;exact iE.yes EM K7 E7 aa rfl NC.out
theorem Bt (a:Nat)(s:BA)(p n q:Nat)(c:Int)(w:World)(F:s.size<=4294967280)(hG:yY a w)(h:DR w a s p n c)(Y:p+fS gT ((bl s).drop p)=q)
  (K:Hid (fY 61 ((bl s).drop q)=false))(H1:Hid (fY 60 ((bl s).drop q)=true))(H2:Hid (fY 60 ((bl s).drop (q+1))=false))(X:Hid (fY 61 ((bl s).drop (q+1))=false)):Calls prog 247 #[.pointer (some ⟨a,0,none⟩)] w (iE (jn 0 ((bl s).drop (q+1))) a s p n c w):=by
 have H:=gy a s p n c w F h;rw[Y] at H;have HQ:Hid (p<=q):=by show _<=_;omega
 have HG:=fH hG;go_in;go_wp2_with fail;refine H.mono ?_;rintro e J ⟨rfl,z,D⟩;have M:=fH z;have G1:=fH D;go_wp2_with fail;refine(gt 61 a s q n c J F M K).mono ?_;rintro e w2 ⟨rfl,z,D⟩;have Z:=fH z;have G2:=fH (fN G1 D);go_wp2_with fail;refine(gK 60 a s q n c w2 F Z H1).mono ?_;rintro e O ⟨rfl,z,D⟩;have R:=fH z;have G3:=fH (fN G2 D);go_wp2_with fail;refine(gt 60 a s (q+1) n c O F R H2).mono ?_;rintro e I ⟨rfl,z,D⟩;have D4:=fH z;have V:=fH (fN G3 D);go_wp2_with fail;refine(gt 61 a s (q+1) n c I F D4 X).mono ?_;rintro e w5 ⟨rfl,z,D⟩;have U:=fH z;have G5:=fH (fN V D);go_wp2;go_ret3;exact iE.no (by unfold jn;rfl) G5 U.out
theorem Bu (a:Nat)(s:BA)(p n q:Nat)(c:Int)(w:World)(F:s.size<=4294967280)(hG:yY a w)(h:DR w a s p n c)(Z:p+fS gT ((bl s).drop p)=q)
  (K:Hid (fY 61 ((bl s).drop q)=false))(H1:Hid (fY 60 ((bl s).drop q)=false))(H2:Hid (fY 62 ((bl s).drop q)=true))(X:Hid (fY 62 ((bl s).drop (q+1))=false))(Y:Hid (fY 61 ((bl s).drop (q+1))=false)):Calls prog 247 #[.pointer (some ⟨a,0,none⟩)] w (iE (jn 0 ((bl s).drop (q+1))) a s p n c w):=by
 have H:=gy a s p n c w F h;rw[Z] at H;have HQ:Hid (p<=q):=by show _<=_;omega
 have HG:=fH hG;go_in;go_wp2_with fail;refine H.mono ?_;rintro e J ⟨rfl,z,D⟩;have M:=fH z;have G1:=fH D;go_wp2_with fail;refine(gt 61 a s q n c J F M K).mono ?_;rintro e w2 ⟨rfl,z,D⟩;have D2:=fH z;have G2:=fH (fN G1 D);go_wp2_with fail;refine(gt 60 a s q n c w2 F D2 H1).mono ?_;rintro e O ⟨rfl,z,D⟩;have R:=fH z;have G3:=fH (fN G2 D);go_wp2_with fail;refine(gK 62 a s q n c O F R H2).mono ?_;rintro e I ⟨rfl,z,D⟩;have D4:=fH z;have V:=fH (fN G3 D);go_wp2_with fail;refine(gt 62 a s (q+1) n c I F D4 X).mono ?_;rintro e w5 ⟨rfl,z,D⟩;have U:=fH z;have G5:=fH (fN V D);go_wp2_with fail;refine(gt 61 a s (q+1) n c w5 F U Y).mono ?_;rintro e w6 ⟨rfl,z,D⟩;have D6:=fH z;have G6:=fH (fN G5 D);go_wp2;go_ret3;exact iE.no (by unfold jn;rfl) G6 D6.out
theorem Bv (a:Nat)(s:BA)(p n q:Nat)(c:Int)(w:World)(F:s.size<=4294967280)(hG:yY a w)(h:DR w a s p n c)(U:p+fS gT ((bl s).drop p)=q)
  (J:Hid (fY 61 ((bl s).drop q)=false))(Y:Hid (fY 60 ((bl s).drop q)=false))(H2:Hid (fY 62 ((bl s).drop q)=false)):Calls prog 247 #[.pointer (some ⟨a,0,none⟩)] w (iE (jn 0 ((bl s).drop q)) a s p n c w):=by
 have H:=gy a s p n c w F h;rw[U] at H;have HQ:Hid (p<=q):=by show _<=_;omega
 have HG:=fH hG;go_in;go_wp2_with fail;refine H.mono ?_;rintro e I ⟨rfl,z,D⟩;have K:=fH z;have G1:=fH D;go_wp2_with fail;refine(gt 61 a s q n c I F K J).mono ?_;rintro e w2 ⟨rfl,z,D⟩;have V:=fH z;have Z:=fH (fN G1 D);go_wp2_with fail;refine(gt 60 a s q n c w2 F V Y).mono ?_;rintro e M ⟨rfl,z,D⟩;have O:=fH z;have X:=fH (fN Z D);go_wp2_with fail;refine(gt 62 a s q n c M F O H2).mono ?_;rintro e w4 ⟨rfl,z,D⟩;have D4:=fH z;have R:=fH (fN X D);go_wp2;go_ret3;exact iE.no (by unfold jn;rfl) R D4.out
theorem GR (a:Nat)(s:BA)(p n:Nat)(c:Int)(w:World)(D:s.size<=4294967280)(F:yY a w)(h:DR w a s p n c):Calls prog 247 #[.pointer (some ⟨a,0,none⟩)] w (iE (Dc ((bl s).drop p)) a s p n c w):=by
 obtain⟨q,z⟩:∃ q,p+fS gT ((bl s).drop p)=q:=⟨_,rfl⟩
 have H:Dc ((bl s).drop p)=jn (Au ((bl s).drop q)).1 (Au ((bl s).drop q)).2:=by unfold Dc;rw[jh,z]
 rw[H];cases h61:fY 61 ((bl s).drop q) with
 | true=>
  have e:Au ((bl s).drop q)=(3,(bl s).drop (q+1)):=by unfold Au;rw[h61,List.drop_drop];rfl
  rw[e];exact Bo a s p n q c w D F h z h61
 | false=>
 cases h60:fY 60 ((bl s).drop q) with
 | true=>
  cases k60:fY 60 ((bl s).drop (q+1)) with
  | true=>
   have e:Au ((bl s).drop q)=(1,(bl s).drop (q+2)):=by unfold Au;rw[h61,h60,List.drop_drop,k60,List.drop_drop];rfl
   rw[e];exact Bp a s p n q c w D F h z h61 h60 k60
  | false=>
  cases k61:fY 61 ((bl s).drop (q+1)) with
  | true=>
   have e:Au ((bl s).drop q)=(2,(bl s).drop (q+2)):=by unfold Au;rw[h61,h60,List.drop_drop,k60,k61,List.drop_drop];rfl
   rw[e];exact Bq a s p n q c w D F h z h61 h60 k60 k61
  | false=>
   have e:Au ((bl s).drop q)=(0,(bl s).drop (q+1)):=by unfold Au;rw[h61,h60,List.drop_drop,k60,k61];rfl
   rw[e];exact Bt a s p n q c w D F h z h61 h60 k60 k61
 | false=>
 cases h62:fY 62 ((bl s).drop q) with
 | true=>
  cases k62:fY 62 ((bl s).drop (q+1)) with
  | true=>
   have e:Au ((bl s).drop q)=(5,(bl s).drop (q+2)):=by unfold Au;rw[h61,h60,h62,List.drop_drop,k62,List.drop_drop];rfl
   rw[e];exact Br a s p n q c w D F h z h61 h60 h62 k62
  | false=>
  cases k61:fY 61 ((bl s).drop (q+1)) with
  | true=>
   have e:Au ((bl s).drop q)=(4,(bl s).drop (q+2)):=by unfold Au;rw[h61,h60,h62,List.drop_drop,k62,k61,List.drop_drop];rfl
   rw[e];exact Bs a s p n q c w D F h z h61 h60 h62 k62 k61
  | false=>
   have e:Au ((bl s).drop q)=(0,(bl s).drop (q+1)):=by unfold Au;rw[h61,h60,h62,List.drop_drop,k62,k61];rfl
   rw[e];exact Bu a s p n q c w D F h z h61 h60 h62 k62 k61
 | false=>
  have e:Au ((bl s).drop q)=(0,(bl s).drop q):=by unfold Au;rw[h61,h60,h62];rfl
  rw[e];exact Bv a s p n q c w D F h z h61 h60 h62
theorem acf (h:tt vC l=none):mX l=none:=by unfold mX;rw[h]
theorem acg {nm:LU}(h:tt vC l=some (nm,r))(z:pj r=none):mX l=none:=by unfold mX;rw[h];simp only[z]
theorem ach {nm q:LU}(h:tt vC l=some (nm,r))(z:pj r=some (q,r1))(D:oA (gm r1)=none):mX l=none:=by unfold mX;rw[h];simp only[z,D]
theorem aci {nm q:LU}{op:Nat}(h:tt vC l=some (nm,r))(z:pj r=some (q,r1))(D:oA (gm r1)=some (op,v,r2))(F:nf r2=none):mX l=none:=by unfold mX;rw[h];simp only[z,D,F]
theorem acj {nm q r3:LU}{op:Nat}{ar:List (LU)}(h:tt vC l=some (nm,r))(z:pj r=some (q,r1))(D:oA (gm r1)=some (op,v,r2))(F:nf r2=some (ar,r3)):mX l=some (⟨nm,q,op,v,ar⟩,r3):=by unfold mX;rw[h];simp only[z,D,F]
theorem Xy (h:fY 58 r=false):pj r=some ([],r):=by unfold pj;rw[h];rfl
theorem ID (h:fY 58 r=true):pj r=tt pH (r.drop 1):=by unfold pj;rw[h];rfl
theorem Xz (h:fY 40 r=false):oA r=some (0,[],r):=by unfold oA;rw[h];rfl
theorem Uy (h:fY 40 r=true):oA r=Dc (r.drop 1):=by unfold oA;rw[h];rfl
theorem Uz (h:fY 91 r=false):nf r=some ([],r):=by unfold nf;rw[h];rfl
theorem PZ (h:fY 91 r=true):nf r=mB (r.length+1) (gm (r.drop 1)):=by unfold nf;rw[h];rfl
structure BC (w wr:World) (a:Nat) (s:BA) (k n:Nat) (c:Int) (vs:LV):Prop where
 tb:fV wr w.heap.size vs
 dr:DR wr a s k n c
 gr:w.grownBy wr (some a)
 lt:a<w.heap.size
theorem BC.step {k' n':Nat}(h:BC w wr a s k n c vs)(z:wr.grownBy w' (some a))(D:DR w' a s k' n' c'):BC w w' a s k' n' c' vs:=
 ⟨h.tb.grownBy z (by intro e;injection e with e;have:=h.lt;omega),D,fN h.gr z,h.lt⟩
theorem BC.set (h:BC w wr a s k n c vs)(j:Nat)(z:j<vs.length)(v:Value):BC w (wr.setCell ⟨w.heap.size,j,none⟩ v) a s k n c (vs.set j v):=
 ⟨h.tb.set j z v,h.dr.far (by have:=h.lt;omega) v,fX h.gr (.inr lr) v,h.lt⟩
theorem BC.start (h:DR w a s k n c)(vs:LV)(t:TypeId):BC w (w.alloc (.cells vs.toArray t)) a s k n c vs:=
 ⟨fV.new w vs t,h.alloc _,World.grownBy_alloc w _ _,h.sz⟩
def qx (r:Option (iU×LU))(a:Nat)(s:BA)(p n:Nat)(c:Int)(w:World)(e:Ending)(w':World):Prop:=
 w.grownBy w' (some a)/\match r with
  | none=>∃ (T:iK) (p' n':Nat) (c':Int),e=.returned (.tuple #[T.val,.bool false])/\DR w' a s p' n' c'
  | some (t,r)=>∃ (T:iK) (p':Nat) (c':Int),e=.returned (.tuple #[T.val,.bool true])/\T.pl=t/\T.own w' w.heap.size/\DR w' a s p' (n+1) c'/\p<p'/\(bl s).drop p'=r/\(c'=0↔c=0/\t.right=true/\n+1<=64)
theorem BC.same {v0 v1 v2 v3 v4:Value}(h:BC w wr a s k n c [v0,v1,v2,v3,v4]):BC w (((((wr.setCell ⟨w.heap.size,0,none⟩ v0).setCell ⟨w.heap.size,1,none⟩ v1).setCell ⟨w.heap.size,2,none⟩ v2).setCell ⟨w.heap.size,3,none⟩ v3).setCell ⟨w.heap.size,4,none⟩ v4) a s k n c [v0,v1,v2,v3,v4]:=
 ((((h.set 0 (by simp) v0).set 1 (by simp) v1).set 2 (by simp) v2).set 3 (by simp) v3).set 4 (by simp) v4
theorem yZ (z:UInt8)(a:Nat)(s:BA)(p n:Nat)(c:Int)(w:World)(D:s.size<=4294967280)(h:DR w a s p n c)(b:Bool)(F:Hid (fY z ((bl s).drop p)=b)):Calls prog 145 #[.pointer (some ⟨a,0,none⟩),.int .u8 z.toNat] w fun e w'=>e=.returned (.bool b)/\DR w' a s (if b then p+1 else p) n c/\w.grownBy w' (some a):=by
 cases b with
 | true=>exact gK z a s p n c w D h F
 | false=>exact gt z a s p n c w D h F
theorem XA (t:iU):t.right=true↔hH t.name=true/\(t.qual=[]\/kH t.qual=true)/\(t.archs.all fun a=>kH (ji a))=true/\(t.op=0\/gL 1 (gX t.ver)=0):=by
 unfold iU.right;simp[and_assoc]
end
section
open Go.RowKit
inductive fL where
 | mk (op nm:BA) (aop:Nat) (ver:BA) (ka:OA) (kc:Nat) (kids:List fL)
def fL.op:fL->BA | .mk op _ _ _ _ _ _=>op
def fL.nm:fL->BA | .mk _ nm _ _ _ _ _=>nm
def fL.aop:fL->Nat | .mk _ _ a _ _ _ _=>a
def fL.ver:fL->BA | .mk _ _ _ v _ _ _=>v
def fL.ka:fL->OA | .mk _ _ _ _ a _ _=>a
def fL.kc:fL->Nat | .mk _ _ _ _ _ c _=>c
def fL.kids:fL->List fL | .mk _ _ _ _ _ _ k=>k
def fL.cells (t:fL):LV:=[.string t.op,.string t.nm,.int .i64 t.aop,.string t.ver,.slice t.ka t.kids.length t.kc]
def fL.val (t:fL):Value:=.agg #[.string t.op,.string t.nm,.int .i64 t.aop,.string t.ver,.slice t.ka t.kids.length t.kc]
theorem uK (t:fL):t.cells.length=5:=rfl
theorem fL.eta (t:fL):t=.mk t.op t.nm t.aop t.ver t.ka t.kc t.kids:=by cases t;rfl
mutual
def fL.pl:fL->mQ
 | .mk op nm aop ver _ _ kids=>if bl op=[] then .atom (bl nm) aop (bl ver) else .node (bl op) (tG kids)
def tG:List fL->List mQ
 | []=>[]
 | t::r=>t.pl::tG r
end
theorem nZ (l:List fL):tG l=l.map fL.pl:=by
 induction l with
 | nil=>simp[tG]
 | cons a r ih=>simp[tG,ih]
mutual
def fL.ht:fL->Nat
 | .mk _ _ _ _ _ _ kids=>IJ kids
def IJ:List fL->Nat
 | []=>0
 | t::r=>max (t.ht+1) (IJ r)
end
mutual
def fL.cnt:fL->Nat
 | .mk _ _ _ _ _ _ []=>1
 | .mk _ _ _ _ _ _ (t::r)=>t.cnt+jG r
def jG:List fL->Nat
 | []=>0
 | t::r=>t.cnt+jG r
end
theorem DP (t:fL):t.ht=IJ t.kids:=by cases t;simp[fL.ht,fL.kids]
theorem DQ {t:fL}(h:t.kids=[]):t.cnt=1:=by cases t;simp only[fL.kids] at h;subst h;simp[fL.cnt]
theorem lW {t:fL}(h:t.kids≠[]):t.cnt=jG t.kids:=by
 obtain⟨_,_,_,_,_,_,z⟩:=t;cases z with
 | nil=>exact absurd rfl h
 | cons a r=>simp[fL.cnt,fL.kids,jG]
theorem aak {l:List fL}{t:fL}(h:t∈l):t.ht+1<=IJ l:=by
 induction l with
 | nil=>simp at h
 | cons a r ih=>
  simp only[IJ];rcases List.mem_cons.1 h with rfl | h
  ·omega
  ·have:=ih h;omega
theorem Kq {l:List fL}(h:l≠[]):∃ t∈l,t.ht+1=IJ l:=by
 induction l with
 | nil=>exact absurd rfl h
 | cons a r ih=>
  simp only[IJ];by_cases z:r=[]
  ·subst z;exact⟨a,by simp,by simp[IJ]⟩
  ·obtain⟨t,ht,D⟩:=ih z;by_cases F:IJ r<=a.ht+1
   ·exact⟨a,by simp,by omega⟩
   ·exact⟨t,by simp[ht],by omega⟩
theorem XO {t k:fL}(h:k∈t.kids):k.ht+1<=t.ht:=by rw[DP t];exact aak h
theorem Cl {t:fL}:t.ht=0↔t.kids=[]:=by
 rw[DP];constructor
 ·intro h;by_cases z:t.kids=[]
  ·exact z
  ·obtain⟨k,_,D⟩:=Kq z;omega
 ·intro h;rw[h];rfl
theorem kU (a b:List fL):jG (a++b)=jG a+jG b:=by
 induction a with
 | nil=>simp[jG]
 | cons x r ih=>simp[jG,ih];omega
theorem Sp (t:fL):0<t.cnt:=by
 match t with
 | .mk _ _ _ _ _ _ []=>simp[fL.cnt]
 | .mk _ _ _ _ _ _ (a::r)=>have:=Sp a;simp[fL.cnt];omega
theorem np (l:List fL):l.length<=jG l:=by
 induction l with
 | nil=>simp
 | cons a r ih=>have:=Sp a;simp[jG];omega
theorem pm {l:List fL}{t:fL}(h:t∈l):t.cnt<=jG l:=by
 induction l with
 | nil=>simp at h
 | cons a r ih=>
  simp only[jG];rcases List.mem_cons.1 h with rfl | h
  ·omega
  ·have:=ih h;omega
theorem IK {l:List fL}{t:fL}(h:l[k]?=some t):jG (l.take (k+1))=jG (l.take k)+t.cnt:=by
 obtain⟨D,z⟩:=gS h;rw[tS D,z,kU];simp[jG]
theorem pS (l:List fL)(k:Nat):jG (l.take k)<=jG l:=by
 conv=>rhs;rw[<-List.take_append_drop k l,kU]
 omega
inductive iD (w:World) (lo:Nat) (bad:Option Nat):fL->Prop
 | mk (t:fL) (row:w.ownsRow lo 86 5 (.slice t.ka t.kids.length t.kc) t.kids.length (t.kids.flatMap fL.cells)) (ne:∀ g,(Value.slice t.ka t.kids.length t.kc).ownBlock=some g->some g≠bad) (kids:∀ k∈t.kids,iD w lo bad k):iD w lo bad t
theorem iD.row {t:fL}(h:iD w lo bad t):w.ownsRow lo 86 5 (.slice t.ka t.kids.length t.kc) t.kids.length (t.kids.flatMap fL.cells):=by cases h;assumption
theorem iD.kids {t:fL}(h:iD w lo bad t):∀ k∈t.kids,iD w lo bad k:=by cases h;assumption
theorem iD.low {t:fL}(h:iD w lo bad t)(z:Bw w w'):iD w' lo bad t:=by
 induction h with
 | mk t row ne _ ih=>exact .mk t (ge row z) ne ih
theorem iD.kept {g:Nat}{t:fL}(h:iD w lo bad t)(z:g<lo)(D:w.grownBy w' (some g)):iD w' lo bad t:=by
 induction h with
 | mk t row ne _ ih=>exact .mk t (gZ row z D) ne ih
theorem iD.grown {t:fL}(h:iD w lo bad t)(z:w.grownBy w' bad):iD w' lo bad t:=by
 induction h with
 | mk t row ne _ ih=>
  refine .mk t (row.kept z ?_) ne ih;cases hb:(Value.slice t.ka t.kids.length t.kc).ownBlock with
  | none=>exact .inl rfl
  | some g=>exact .inr (ne g hb)
theorem iD.base {lo':Nat}{t:fL}(h:iD w lo bad t)(z:lo'<=lo):iD w lo' bad t:=by
 induction h with
 | mk t row ne _ ih=>exact .mk t (gF row z) ne ih
theorem iD.any {t:fL}(h:iD w lo bad t):iD w lo none t:=by
 induction h with
 | mk t row _ _ ih=>exact .mk t row (fun g _=>by simp) ih
theorem iD.old {bad':Option Nat}{t:fL}(h:iD w lo bad t)(F:∀ g,bad'=some g->g<lo\/w.heap.size<=g):iD w lo bad' t:=by
 induction h with
 | mk t row ne _ ih=>
  refine .mk t row (fun g z e=>?_) ih;have H:=row.lt g z;rcases F g e.symm with D | D<;>omega
inductive He (w:World):fL->Prop
 | mk (t:fL) (row:Rd w 5 t.ka t.kids.length (t.kids.flatMap fL.cells)) (kids:∀ k∈t.kids,He w k):He w t
theorem He.row {t:fL}(h:He w t):Rd w 5 t.ka t.kids.length (t.kids.flatMap fL.cells):=by cases h;assumption
theorem He.kids {t:fL}(h:He w t):∀ k∈t.kids,He w k:=by cases h;assumption
theorem He.low {t:fL}(h:He w t)(z:Bw w w'):He w' t:=by
 induction h with
 | mk t row _ ih=>exact .mk t (row.below z) ih
theorem iD.rd {t:fL}(h:iD w lo bad t):He w t:=by
 induction h with
 | mk t row _ _ ih=>exact .mk t (gR row) ih
theorem He.cell {t:fL}(h:He w t)(i:Nat)(k:fL)(z:t.kids[i]?=some k):∃ b off,t.ka=some ⟨b,off,none⟩/\∀ (j:Nat)(u:Value),k.cells[j]?=some u->w.cell? ⟨b,off+i*5+j,none⟩=some u:=h.row.elem uK i k z
theorem UJ {t:fL}(h:He w t):∀ u:fL,He w u->t.ka=u.ka->t.kids.length=u.kids.length->t.kids=u.kids:=by
 induction h with
 | mk t row kids ih=>
  intro u V ha hl;apply List.ext_getElem hl;intro i U K;obtain⟨x,D⟩:∃ x,t.kids[i]?=some x:=⟨_,gG U⟩
  obtain⟨y,z⟩:∃ y,u.kids[i]?=some y:=⟨_,gG K⟩
  obtain⟨b,off,J,F⟩:=row.elem uK i x D;obtain⟨b',M,Z,H⟩:=V.row.elem uK i y z;rw[ha,Z] at J;injection J with J;injection J with eb eo _;subst eb eo;have O:=(F 0 _ rfl).symm.trans (H 0 _ rfl);have R:=(F 1 _ rfl).symm.trans (H 1 _ rfl);have f2:=(F 2 _ rfl).symm.trans (H 2 _ rfl);have X:=(F 3 _ rfl).symm.trans (H 3 _ rfl);have I:=(F 4 _ rfl).symm.trans (H 4 _ rfl);simp only[Option.some.injEq,Value.string.injEq,Value.int.injEq,Value.slice.injEq,true_and] at O R f2 X I;have Y:=ih x (gM D) y (V.kids y (gM z)) I.1 I.2.1;have:x=y:=by rw[fL.eta x,fL.eta y,O,R,X,I.1,I.2.2,Y,show x.aop=y.aop by omega]
  rw[gG U] at D;rw[gG K] at z;injection D with D;injection z with z;rw[D,z,this]
end
end Go.Proofs.YtkmjcombhjombaaGreatDoor
