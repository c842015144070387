/- A part of the proof. -/
import Derived.Test.YtkmjcombhjombaaGreatDoorK06
import Derived.Test.YtkmjcombhjombaaGreatDoorK07
set_option maxRecDepth 100000
set_option maxHeartbeats 20000000
set_option linter.unusedVariables false
set_option linter.unusedSimpArgs false
namespace Go.Proofs.YtkmjcombhjombaaGreatDoor
variable{r s:BA}{kind:Int}{l:LU}{acc ps:List Pc}{k n:Nat}{c:UInt8}{w wr:World}
section
open Go.RowKit
theorem sT (s p:BA)(w:World)(h:Hid (Lib.hasPrefix (bl s) (bl p)=true)):Calls Tryz.prog 131 #[.string s,.string p] w fun e w'=>e=.returned (.tuple #[.string (s.extract p.size s.size),.bool true])/\w=w':=
 (Tryz.strings_CutPrefix s p w).mono fun e w' ⟨D,F⟩=>⟨by
  have y:Lib.hasPrefix s.data.toList p.data.toList=true:=h.out;rw[D,y];have z:(⟨(Lib.trimPrefix s.data.toList p.data.toList).toArray⟩:BA)=s.extract p.size s.size:=by
   apply nH;rw[pd,lm];unfold Lib.trimPrefix;rw[y];simp[bl]
  rw[z],F.symm⟩
theorem uc (s p:BA)(w:World)(h:Hid (Lib.hasPrefix (bl s) (bl p)=false)):Calls Tryz.prog 131 #[.string s,.string p] w fun e w'=>e=.returned (.tuple #[.string s,.bool false])/\w=w':=
 (Tryz.strings_CutPrefix s p w).mono fun e w' ⟨D,F⟩=>⟨by
  have y:Lib.hasPrefix s.data.toList p.data.toList=false:=h.out;rw[D,y];have z:(⟨(Lib.trimPrefix s.data.toList p.data.toList).toArray⟩:BA)=s:=by
   apply nH;rw[pd];unfold Lib.trimPrefix;rw[y];rfl
  rw[z],F.symm⟩
theorem xU (s p:BA)(b:Bool)(w:World)(h:Hid (Lib.hasPrefix (bl s) (bl p)=b)):Calls Tryz.prog 210 #[.string s,.string p] w fun e w'=>e=.returned (.bool b)/\w=w':=
 (Tryz.strings_HasPrefix s p w).mono fun e w' ⟨y,z⟩=>⟨by rw[y,show Lib.hasPrefix s.data.toList p.data.toList=b from h.out],z.symm⟩
theorem xV (s:BA)(n:Nat)(w:World)(hs:s.size<=9223372036854775807)(h:Hid (jo jV (bl s)=n)):Calls Tryz.prog 217 #[.string s,.func (.func 214) #[] #[]] w fun e w'=>e=.returned (.int .i64 n)/\w=w':=by rw[<-h.out];exact GV s w hs
theorem Jk (s:BA)(n:Nat)(w:World)(hs:s.size<=9223372036854775807)(h:Hid (jo lF (bl s)=n)):Calls Tryz.prog 217 #[.string s,.func (.func 218) #[] #[]] w fun e w'=>e=.returned (.int .i64 n)/\w=w':=by rw[<-h.out];exact RQ s w hs
def CI (r:Option (List Pc×LU×LU))(w:World)(e:Ending)(w':World):Prop:=
 Below w.heap.size w w'/\match r with
  | none=>∃ (A:Option Addr) (n c:Nat) (p q:BA),e=.returned (.tuple #[.slice A n c,.string p,.string q,.bool false])
  | some (ps,p,q)=>∃ (A:Option Addr) (c:Nat),e=.returned (.tuple #[.slice A ps.length c,.string ⟨p.toArray⟩,.string ⟨q.toArray⟩,.bool true])/\Rd w' 3 A ps.length (ps.flatMap Pc.cells)
theorem FU.start (w:World)(s:BA):FU w ((w.alloc (.cells #[.slice none 0 0] 256)).alloc (.cells #[.string s] 9)) [] s:=
 ⟨⟨none,0,by simp,World.ownsRow_nil _ _ _ _⟩,by simp,by simp,by simp,(bR.alloc lr _).alloc (by simp) _,by simp⟩
theorem Vn (h:Lib.hasPrefix l [c]=true):l=c::l.drop 1:=by
 cases l with
 | nil=>simp[Lib.hasPrefix] at h
 | cons a r=>simp[Lib.hasPrefix] at h;simp[h]
theorem ZF (h:Lib.hasPrefix l [c]=false)(t:LU):l≠c::t:=by
 intro e;subst e;simp[Lib.hasPrefix] at h
theorem NU (h:jo jV l=0):pH (k+1) kind acc l=none:=by unfold pH;rw[if_pos h]
theorem NV {r:LU}(hn:jo jV l=n)(h0:n≠0)(h:l.drop n=46::r):pH (k+1) kind acc l=pH k 6 (acc++[⟨kind,l.take n,0⟩]) r:=by
 subst hn
 conv=>lhs;unfold pH
 rw[if_neg h0,h];simp
theorem NX (hn:jo jV l=n)(h0:n≠0)(h:∀ r,l.drop n≠46::r):pH (k+1) kind acc l=some (acc++[⟨kind,l.take n,0⟩],l.drop n):=by
 subst hn
 conv=>lhs;unfold pH
 rw[if_neg h0];split
 ·rename_i r y;exact absurd y (h r)
 ·rfl
def restSz (w wr:World):Nat:=match wr.cell? ⟨w.heap.size+1,0,none⟩ with | some (.string r)=>r.size | _=>0
theorem FU.restSz (h:FU w wr ps r):restSz w wr=r.size:=by unfold Go.Proofs.YtkmjcombhjombaaGreatDoor.restSz;rw[h.rcell]
theorem oJ (r:BA)(n:Nat):(r.extract n r.size).size=r.size-n:=by
 have:=congrArg List.length (lm r n);rw[iX,List.length_drop,iX] at this;exact this
structure FV (s:BA) (ps:List Pc) (r:BA):Prop where
 le:ps.length+r.size<=s.size
 tail:bl r=(bl s).drop (s.size-r.size)
theorem FV.start (s:BA):FV s [] s:=⟨by simp,by simp⟩
theorem FV.drop {qs:List Pc}(h:FV s ps r)(hn:n<=r.size)(hq:qs.length<=ps.length+n):FV s qs (r.extract n r.size):=by
 have y:=oJ r n;refine⟨by rw[y];have:=h.le;omega,?_⟩;rw[lm,h.tail,List.drop_drop,y];congr 1;have:=h.le;omega
def Vo:LU->Bool
 | c::_=>lF c
 | []=>false
theorem Vp (h:Vo l=false):ri acc l=(acc,l):=by
 cases l with
 | nil=>rfl
 | cons c r=>simp only[Vo] at h;simp[ri,h]
theorem Sk (h:Vo l=true):ri acc l=(acc++[⟨5,l.take 1,0⟩],l.drop 1):=by
 cases l with
 | nil=>simp[Vo] at h
 | cons c r=>simp only[Vo] at h;simp[ri,h]
theorem Yl (h:Vo (bl r)=true):0<r.size:=by
 rcases Nat.eq_zero_or_pos r.size with y | y
 ·rw[kw r y] at h;simp[Vo] at h
 ·exact y
theorem NZ (h:∀ t,l≠95::t):nW (k+1) acc l=some (acc,l):=by
 unfold nW;split
 ·rename_i r;exact absurd rfl (h r)
 ·rfl
theorem QJ (x:LU):∀ (l:List (LU))(k:Nat),Ge l x=some k->k<l.length
 | [],k,h=>by simp[Ge] at h
 | a::r,k,h=>by
  unfold Ge at h;split at h
  ·injection h with h;subst h;simp
  ·obtain⟨j,y,rfl⟩:=Option.map_eq_some_iff.1 h;have:=QJ x r j y;simp;omega
theorem Sl (h:ub l=some k):k<9:=QJ l Jj k h
def qR (wd:Nat):Int:=if 4<=wd then 4 else 0
theorem N3 {r:LU}(hn:jo lF r=n)(h:ub (r.take n)=none):nW (k+1) acc (95::r)=none:=by
 subst hn
 conv=>lhs;unfold nW
 simp only[h]
theorem N4 {m wd:Nat}{r:LU}(hn:jo lF r=n)(h:ub (r.take n)=some wd)(hm:jo jV (r.drop n)=m):
  nW (k+1) acc (95::r)=nW k (acc++[⟨qR wd,r.take n,wd⟩]++(if 0<m then [⟨3,(r.drop n).take m,0⟩] else [])) ((r.drop n).drop m):=by
 subst hn hm
 conv=>lhs;unfold nW
 simp only[h,qR]
theorem FU.setWord {x:Pc}(h:FU w wr (ps++[x]) r)(wd:Int){g c N:Nat}(hN:N=ps.length+1)(hc:wr.cell? ⟨w.heap.size,0,none⟩=some (.slice (some ⟨g,0,none⟩) N c)):
  FU w (wr.setCell ⟨g,ps.length*3+2,none⟩ (.int .i64 wd)) (ps++[{ x with word:=wd }]) r:=by
 obtain⟨⟨A,V,I,D⟩,Y,U,O,H,X⟩:=h;rw[I] at hc;injection hc with hc;injection hc with hA _ hcc;subst hA hcc;have K:=(D.lt g rfl)
 have z:wr.grownBy (wr.setCell ⟨g,ps.length*3+2,none⟩ (.int .i64 wd)) (some g):=ji (World.grownBy.refl wr (some g)) (.inl rfl) _;have J:(ps++[x]).length=(ps++[{ x with word:=wd }]).length:=by simp
 have y:=(D.stored (ps.length*3+2) (.int .i64 wd)).1;have R:((ps++[x]).flatMap Pc.cells).set (ps.length*3+2) (.int .i64 wd)=(ps++[{ x with word:=wd }]).flatMap Pc.cells:=by
  have M:(ps.flatMap Pc.cells).length=ps.length*3:=ox Vm ps;rw[List.flatMap_append,List.flatMap_append,List.set_append_right _ _ (by omega),M,show ps.length*3+2-ps.length*3=2 from by omega];simp[Pc.cells]
 rw[R] at y;refine⟨⟨some ⟨g,0,none⟩,V,z.cell (by rw[<-J];exact I) (by simp;omega),by rw[<-J];exact y⟩,by rw[World.frozen?_setCell];exact Y,z.cell U (by simp;omega),by rw[World.frozen?_setCell];exact O,H.grown z H.size (fun j F=>by injection F with F;omega),Nat.le_trans X z.size⟩
def Jl (l:LU)(acc:List Pc)(k:Nat)(r q:BA):Option (List Pc×LU×LU):=if r.size=0 then some (acc++[⟨1,[],0⟩],l.take k,bl q) else none
theorem Ym (l:LU)(acc:List Pc)(r:BA)(h:Lib.hasPrefix (bl r) [45,114]=false):wK l acc (bl r)=Jl l acc (l.length-r.size) r ⟨#[]⟩:=by
 unfold Jl;by_cases y:r.size=0
 ·rw[if_pos y,kw r y,y];simp[wK,bl]
 ·rw[if_neg y];have D:=pi r (by omega);unfold wK;split
  ·rename_i z;rw[z] at D;cases D
  ·rename_i t z;rw[z] at h;simp[Lib.hasPrefix] at h
  ·rfl
theorem Yn (h:Lib.hasPrefix l [45,114]=true):l=45::114::l.drop 2:=by
 cases l with
 | nil=>simp[Lib.hasPrefix] at h
 | cons a r=>
  cases r with
  | nil=>simp[Lib.hasPrefix] at h
  | cons b r=>simp[Lib.hasPrefix] at h;simp[h.1,h.2]
theorem Vq (l:LU)(acc:List Pc)(r t:BA)(h:bl r=45::114::bl t)(hn:sS (bl t)=true)(e:BA)(he:e.size=0):wK l acc (bl r)=Jl l (acc++[⟨2,bl t,0⟩]) (l.length-r.size) e t:=by
 unfold Jl;have y:=congrArg List.length h;rw[iX] at y;rw[if_pos he,h,wK,if_pos hn,<-h,iX]
theorem Vr (l:LU)(acc:List Pc)(r t q:BA)(h:bl r=45::114::bl t)(hn:sS (bl t)=false)(k:Nat):wK l acc (bl r)=Jl l acc k r q:=by
 unfold Jl;have y:=congrArg List.length h;rw[iX] at y;rw[if_neg (by simp at y;omega),h,wK,if_neg (by rw[hn];simp)]
theorem ud {W w2:World}{r2 q:BA}{ps0:List Pc}{NN:Nat}{A A1:Option Addr}{c c1:Nat}{b:Bool}{o:Obj}(h0:xT (bl s)=wK (bl s) ps0 (bl r2))(h1:wK (bl s) ps0 (bl r2)=Jl (bl s) ps ((bl s).length-r2.size) r q)(hb:decide (r.size=0)=b)(hn:ps.length=NN)
  (hbel:Below w.heap.size w W)(hsz:w.heap.size+2<=W.heap.size)(ho:W.ownsRow (w.heap.size+2) 310 3 (.slice A NN c) NN (ps.flatMap Pc.cells))(g2:(W.alloc o).drew.grownBy w2 (Value.slice A NN c).ownBlock)
  (o2:w2.ownsRow (w.heap.size+2) 310 3 (.slice A1 (NN+1) c1) (NN+1) (ps.flatMap Pc.cells++[.int .i64 1,.string ⟨#[]⟩,.int .i64 0])):
  CI (xT (bl s)) w (.returned (.tuple #[.slice A1 (NN+1) c1,.string (s.extract 0 (s.size-r2.size)),.string q,.bool b])) (w2.setCell ⟨w.heap.size,0,none⟩ (.slice A1 (NN+1) c1)):=by
 have F:Below w.heap.size w w2:=(jj (hbel.alloc hbel.size o) 1).grown g2 (by simp;omega) (fun j y=>by have:=(ho.lt j y).1;omega);have D:w2.grownBy (w2.setCell ⟨w.heap.size,0,none⟩ (.slice A1 (NN+1) c1)) (some w.heap.size):=ji (World.grownBy.refl w2 (some w.heap.size)) (.inl rfl) _;refine⟨F.grown D F.size (fun j y=>by injection y with y;omega),?_⟩;rw[h0,h1];unfold Jl;cases b with
 | false=>
  rw[if_neg (of_decide_eq_false hb)];exact⟨_,_,_,_,_,rfl⟩
 | true=>
  rw[if_pos (dO hb)];have H:(ps++[(⟨1,[],0⟩:Pc)]).length=NN+1:=by simp[hn]
  have K:(ps++[(⟨1,[],0⟩:Pc)]).flatMap Pc.cells=ps.flatMap Pc.cells++[.int .i64 1,.string ⟨#[]⟩,.int .i64 0]:=by rw[List.flatMap_append];rfl
  refine⟨A1,c1,?_,?_⟩
  ·rw[H];have J:(⟨((bl s).take ((bl s).length-r2.size)).toArray⟩:BA)=s.extract 0 (s.size-r2.size):=by apply nH;rw[pd,mF,iX]
   have I:(⟨(bl q).toArray⟩:BA)=q:=by apply nH;rw[pd]
   simp only[J,I]
  ·rw[H,K];refine jL (o2.kept D ?_);cases hq:(Value.slice A1 (NN+1) c1).ownBlock with
   | none=>exact .inl rfl
   | some k=>right;intro z;injection z with z;have:=(o2.lt k hq).1;omega
theorem CJ (s:BA)(w:World)(hG:Gl w)(hs:s.size<=64):Calls Tryz.prog 163 #[.string s] w (CI (xT (bl s)) w):=by
 have HG:=iV hG;clear hG;go_in;go_upto_block 0 with(fail)
 go_cut [4,8] (fun s4 s8 wx=>∃ (kd:Int) (D:List Pc) (r:BA),s4=.string ⟨#[]⟩/\s8=.int .i64 kd/\Hid (pH (s.size+1) 7 [] (bl s)=some (D,bl r))/\Hid (FU w wx D r)/\Hid (FV s D r))
 case first=>
  go_wp2;go_loopw [4,8] (fun s4 s8 wr=>∃ (z:Nat) (kd:Int) (D:List Pc) (r:BA),s4=.string ⟨#[]⟩/\s8=.int .i64 kd/\r.size<=z/\Hid (pH (s.size+1) 7 [] (bl s)=pH (z+1) kd D (bl r))/\Hid (FU w wr D r)/\Hid (FV s D r)) (fun _ _ wr=>restSz w wr)
  case atStart=>exact⟨s.size,7,[],s,rfl,rfl,lr,rfl,FU.start w s,FV.start s⟩
  case round=>
   obtain⟨z,kd,D,r,rfl,rfl,bk,HN,J,HA⟩:=hrel;have c6:=J.out.rcell;have au:r.size<=64:=by have:=HA.out.le;omega
   have aB:D.length<=1000:=by have:=HA.out.le;omega
   obtain⟨n,hn⟩:∃ n,n=jo jV (bl r):=⟨_,rfl⟩
   have af:Hid (jo jV (bl r)=n):=hn.symm;have ax:n<=r.size:=by have:=pm jV (bl r);rw[iX] at this;omega
   clear hn;go_wp2_with fail;refine(xV r n _ (by omega) af).mono ?_;rintro e w' ⟨rfl,rfl⟩;by_cases n0:n=0
   ·have bd:((n:Int)==0)=true:=oV n0;have E:Hid (xT (bl s)=none):=by show _=_;unfold xT;rw[iX,HN.out,NU (by rw[af.out];exact n0)]
    obtain⟨A,c,R,H⟩:=J.out.lcell;have fl:=J.out.lfree;clear n0 H;go_wp2_with fail;refine bodyPost_ret (v:=.tuple #[.slice none 0 0,.string ⟨#[]⟩,.string ⟨#[]⟩,.bool false]) (by simp[results,Tryz.results163,go_sem,R]) rfl ?_;rw[E.out];exact⟨J.out.bel.setCell lr _,none,0,0,_,_,rfl⟩
   ·have bd:((n:Int)==0)=false:=om n0;have N0:Gb (n=0):=⟨n0⟩
    clear n0;go_wp2_with fail;refine(qQ w kd n D r _ ax au aB J.out).mono ?_;rintro e w1 ⟨rfl,ar⟩;have U:=iV ar;have ai:Hid (FV s (D++[⟨kd,(bl r).take n,0⟩]) (r.extract n r.size)):=HA.out.drop ax (by have:=N0.out;simp;omega);have c7:=ar.rcell;have BD:=iV (lm r n);have V:=oJ r n;have ae:=iV V;clear ar c6 V;cases hpf:Lib.hasPrefix (bl (r.extract n r.size)) [46]
    ·have X:Hid (Lib.hasPrefix (bl (r.extract n r.size)) (bl ⟨#[46]⟩)=false):=hpf;have HR:Hid (pH (s.size+1) 7 [] (bl s)=some (D++[⟨kd,(bl r).take n,0⟩],bl (r.extract n r.size))):=by
      show _=_;rw[HN.out,NX af.out N0.out (fun t=>by rw[<-BD.out];exact ZF hpf t),BD.out]
     clear hpf;go_wp2_with fail;refine(uc _ _ _ X).mono ?_;rintro e w' ⟨rfl,rfl⟩;go_wp2;go_meet;exact⟨kd,_,_,rfl,rfl,HR,U,ai⟩
    ·have X:Hid (Lib.hasPrefix (bl (r.extract n r.size)) (bl ⟨#[46]⟩)=true):=hpf;have I:=Vn hpf;obtain⟨F,O⟩:∃ F,F=r.extract n r.size:=⟨_,rfl⟩
     have bq:=iV O;have aC:1<=F.size:=by
      rcases Nat.eq_zero_or_pos F.size with h0 | h0
      ·have h2:=kw F h0;rw[O] at h2;rw[h2] at I;cases I
      ·exact h0
     have HR:Hid (pH (s.size+1) 7 [] (bl s)=pH (z-1+1) 6 (D++[⟨kd,(bl r).take n,0⟩]) (bl (F.extract 1 F.size))):=by
      show _=_;have bf:z-1+1=z:=by have h1:=ae.out;rw[<-O] at h1;omega
      rw[lm F 1,O,HN.out,NV af.out N0.out (by rw[<-BD.out];exact I),bf]
     have bj:Hid ((F.extract 1 F.size).size<=z-1):=by show _<=_;rw[oJ];have h1:=ae.out;rw[<-O] at h1;have:=N0.out;omega
     rw[<-O] at U ai X c7;have fr:=U.out.rfree;have ag:Hid (FV s (D++[⟨kd,(bl r).take n,0⟩]) (F.extract 1 F.size)):=ai.out.drop aC (by omega);have ad:=iV (U.out.setRest (F.extract 1 F.size));have bp:Hid (F.size=r.size-n):=by have:=ae.out;rw[<-O] at this;exact this
     clear hpf I O;go_wp2_with fail;refine(sT _ _ _ X).mono ?_;rintro e w' ⟨rfl,rfl⟩;go_wp2;go_roundw
     case rel=>exact⟨z-1,6,_,_,rfl,rfl,bj.out,HR,ad,ag⟩
     case measure=>
      rw[ad.out.restSz,J.out.restSz,oJ];have:=bp.out;have:=N0.out;omega
 case rest=>
 obtain⟨kd,D,r,rfl,rfl,HN,J,HA⟩:=hcut;have c6:=J.out.rcell;have au:r.size<=64:=by have:=HA.out.le;omega
 go_upto_region 12 with(fail)
 go_cut [42] (fun bi wx=>bi=.bool (Vo (bl r))/\wc=wx)
 case first=>
  by_cases h0:r.size=0
  ·have Z:r.toList=[]:=by rw[iY,kw r h0]
   have aa:r.toList.isEmpty=true:=by rw[Z];rfl
   have E:Hid (Vo (bl r)=false):=by show _=_;rw[kw r h0];rfl
   clear h0;go_wp2;go_meet;exact⟨by rw[E.out],rfl⟩
  ·have aa:r.toList.isEmpty=false:=by rw[iY,jB];exact dF h0
   have Z:¬ r.toList=[]:=by intro h;rw[h] at aa;simp at aa
   have bc:0<r.size:=by omega
   have E:Hid (Vo (bl r)=lF r[0]):=by show _=_;rw[pi r bc];rfl
   clear h0;go_wp2_with fail;refine(sQ r[0] _).mono ?_;rintro e w' ⟨rfl,rfl⟩;go_wp2;go_meet;exact⟨by rw[E.out],rfl⟩
 case rest=>
 obtain⟨rfl,rfl⟩:=hcut;go_upto_if 42 with(fail)
 go_cut [44] (fun _ wx=>∃ (qs:List Pc) (t:BA),Hid (ri D (bl r)=(qs,bl t))/\Hid (FU w wx qs t)/\Hid (FV s qs t))
 case first=>
  cases M:Vo (bl r)
  ·have E:Hid (ri D (bl r)=(D,bl r)):=Vp M;clear M;go_wp2;go_meet;exact⟨D,r,E,J,HA⟩
  ·have bc:0<r.size:=Yl M;have E:Hid (ri D (bl r)=(D++[⟨5,(bl r).take 1,0⟩],bl (r.extract 1 r.size))):=by show _=_;rw[lm];exact Sk M
   have aB:D.length<=1000:=by have:=HA.out.le;omega
   clear M;go_wp2_with fail;refine(qQ w 5 1 D r _ (by omega) au aB J.out).mono ?_;rintro e w1 ⟨rfl,ar⟩;have U:=iV ar;have ai:Hid (FV s (D++[⟨5,(bl r).take 1,0⟩]) (r.extract 1 r.size)):=HA.out.drop (by omega) (by simp);clear ar;go_wp2;go_meet;exact⟨_,_,E,U,ai⟩
 case rest=>
 obtain⟨qs,t,HL,ad,ag⟩:=hcut;clear c6 au;go_upto_block 2 with(fail)
 go_cut [4] (fun s4 wx=>∃ (D:List Pc) (r:BA),s4=.string ⟨#[]⟩/\Hid (nW (t.size+1) qs (bl t)=some (D,bl r))/\Hid (FU w wx D r)/\Hid (FV s D r))
 case first=>
  clear J HA;go_wp2;go_loopw [4] (fun s4 wr=>∃ (z:Nat) (D:List Pc) (r:BA),s4=.string ⟨#[]⟩/\r.size<=z/\Hid (nW (t.size+1) qs (bl t)=nW (z+1) D (bl r))/\Hid (FU w wr D r)/\Hid (FV s D r)) (fun _ wr=>restSz w wr)
  case atStart=>exact⟨t.size,qs,t,rfl,lr,rfl,ad,ag⟩
  case round=>
   clear ad ag;obtain⟨z,D,r,rfl,bk,HS,J,HA⟩:=hrel;have c6:=J.out.rcell;have au:r.size<=64:=by have:=HA.out.le;omega
   have aB:D.length<=64:=by have:=HA.out.le;omega
   cases hpf:Lib.hasPrefix (bl r) [95]
   ·have X:Hid (Lib.hasPrefix (bl r) (bl ⟨#[95]⟩)=false):=hpf;have HR:Hid (nW (t.size+1) qs (bl t)=some (D,bl r)):=by show _=_;rw[HS.out,NZ (ZF hpf)]
    clear hpf;go_wp2_with fail;refine(xU r ⟨#[95]⟩ false _ X).mono ?_;rintro e w' ⟨rfl,rfl⟩;go_wp2;go_meet;exact⟨D,r,rfl,HR,J,HA⟩
   ·have X:Hid (Lib.hasPrefix (bl r) (bl ⟨#[95]⟩)=true):=hpf;have I:=Vn hpf;have aC:1<=r.size:=by
     rcases Nat.eq_zero_or_pos r.size with h0 | h0
     ·rw[kw r h0] at I;cases I
     ·exact h0
    have fr:=J.out.rfree;obtain⟨F,O⟩:∃ F,F=r.extract 1 r.size:=⟨_,rfl⟩
    have V:F.size=r.size-1:=by rw[O];exact oJ r 1
    have ba:Hid (bl r=95::bl F):=by show _=_;rw[O,lm];exact I
    have U:Hid (FU w (wr.setCell ⟨w.heap.size+1,0,none⟩ (.string F)) D F):=J.out.setRest F;have ai:Hid (FV s D F):=by show FV _ _ _;rw[O];exact HA.out.drop aC (by omega)
    have bq:=iV O;have ae:=iV V;obtain⟨n,hn⟩:∃ n,n=jo lF (bl F):=⟨_,rfl⟩
    have af:Hid (jo lF (bl F)=n):=hn.symm;have ax:n<=F.size:=by have:=pm lF (bl F);rw[iX] at this;omega
    clear hpf I V hn;go_upto_region 16 with(first | (go_at_call 210;refine(xU r ⟨#[95]⟩ true _ X).mono ?_;rintro e w' ⟨rfl,rfl⟩) | fail)
    rw[<-O];have bx:=iV O;clear O c6 fr;generalize bt:wr.setCell ⟨w.heap.size+1,0,none⟩ (.string F)=w1 at U |-;clear bt;have c7:=U.out.rcell;have aX:F.size<=64:=by have:=ae.out;omega
    go_wp2_with fail;refine(Jk F n _ (by omega) af).mono ?_;rintro e w' ⟨rfl,rfl⟩;have bw:(n:Int)<=(F.size:Int):=by omega
    go_wp2_with fail;refine(CH (F.extract 0 n) _ (HG.out.below U.out.bel)).mono ?_;rintro e w' ⟨rfl,rfl⟩;cases hwd:ub ((bl F).take n) with
    | none=>
     have aA:Z4 (F.extract 0 n)=-1:=by unfold Z4;rw[mF,hwd]
     have E:Hid (xT (bl s)=none):=by show _=_;unfold xT;rw[iX,HN.out];simp only[HL.out,iX];rw[HS.out,ba.out,N3 af.out hwd]
     rw[aA];obtain⟨A,c,R,H⟩:=U.out.lcell;have fl:=U.out.lfree;clear hwd aA H;go_wp2_with fail;refine bodyPost_ret (v:=.tuple #[.slice none 0 0,.string ⟨#[]⟩,.string ⟨#[]⟩,.bool false]) (by simp[results,Tryz.results163,go_sem,R]) rfl ?_;rw[E.out];exact⟨U.out.bel.setCell lr _,none,0,0,_,_,rfl⟩
    | some wd=>
     have aA:Z4 (F.extract 0 n)=(wd:Int):=by unfold Z4;rw[mF,hwd]
     rw[aA];have br:=iV hwd;have bu:wd<9:=Sl hwd;clear hwd aA;go_upto_if 58 with(fail)
     go_cut [14] (fun bs wx=>bs=.int .i64 (qR wd)/\w1=wx)
     case first=>
      by_cases h4:4<=wd
      ·have E4:Hid (qR wd=4):=by show _=_;unfold qR;rw[if_pos h4]
       go_wp2;go_meet;exact⟨by rw[E4.out],rfl⟩
      ·have E4:Hid (qR wd=0):=by show _=_;unfold qR;rw[if_neg h4]
       go_wp2;go_meet;exact⟨by rw[E4.out],rfl⟩
     case rest=>
     obtain⟨rfl,rfl⟩:=hcut;go_wp2_with fail;refine(qQ w (qR wd) n D F _ ax aX (by omega) U.out).mono ?_;rintro e w2 ⟨rfl,bb⟩;have ad:=iV bb;obtain⟨y,av⟩:∃ y,y=F.extract n F.size:=⟨_,rfl⟩
     rw[<-av] at ad;have aE:Hid (y.size=F.size-n):=by show _=_;rw[av];exact oJ F n
     have aW:Hid (bl y=(bl F).drop n):=by show _=_;rw[av];exact lm F n
     have bC:1<=n\/n=0:=by omega
     have ag:Hid (FV s (D++[⟨qR wd,(bl F).take n,(wd:Int)⟩]) y):=by
      show FV _ _ _;have h1:FV s (D++[⟨qR wd,(bl F).take n,(wd:Int)⟩]) F:=⟨by have:=HA.out.le;have:=ae.out;simp;omega,ai.out.tail⟩
      rw[av];exact h1.drop ax (by omega)
     obtain⟨A,c,R,H⟩:=ad.out.lcell;obtain⟨g,cap,hv,_,be⟩:=H.form (by simp);obtain⟨rfl,rfl⟩:A=some ⟨g,0,none⟩/\c=cap:=by injection hv with h1 _ h2;exact⟨h1,h2⟩
     obtain⟨N,hN⟩:∃ N,N=D.length+1:=⟨_,rfl⟩
     have eN:(D++[(⟨qR wd,(bl F).take n,0⟩:Pc)]).length=N:=by rw[hN];simp
     rw[eN] at R;have ay:Hid (FU w (w2.setCell ⟨g,D.length*3+2,none⟩ (.int .i64 wd)) (D++[⟨qR wd,(bl F).take n,(wd:Int)⟩]) y):=ad.out.setWord wd hN R;have bz:N<=1000:=by omega
     have bB:1<=N:=by omega
     have cw:w2.cell? ⟨g,D.length*3+2,none⟩=some (.int .i64 0):=by
      rw[H.cellAt (D.length*3+2) (by simp;omega),rt Vm _ D.length 2 ⟨qR wd,(bl F).take n,0⟩ (by simp) (by omega)];rfl
     have fw:w2.frozen? ⟨g,D.length*3+2,none⟩=false:=H.frozenAt _;have aK:=fun W=>BZ (T:=256) (E:=310) (sz:=3) (c:=c) (n:=N) (k:=D.length) (i:=(N:Int)-1) Tryz.underlying256 rfl Tryz.sizeOf310 (by omega) (A:=some ⟨g,0,none⟩) rfl (by omega) W;simp only[Nat.zero_add] at aK;have bv:=iV hN;obtain⟨m,hm⟩:∃ m,m=jo jV (bl y):=⟨_,rfl⟩
     have aZ:Hid (jo jV (bl y)=m):=hm.symm;have aS:m<=y.size:=by have:=pm jV (bl y);rw[iX] at this;omega
     have aU:y.size<=64:=by have:=aE.out;omega
     have aY:Hid (nW (t.size+1) qs (bl t)=nW z (D++[⟨qR wd,(bl F).take n,(wd:Int)⟩]++(if 0<m then [⟨3,(bl y).take m,0⟩] else [])) ((bl y).drop m)):=by
      show _=_;rw[HS.out,ba.out,N4 (m:=m) af.out br.out (by rw[<-aW.out];exact aZ.out),aW.out]
     have bD:=iV av;clear bb H hv be hN eN hm c7 av;go_upto_region 25 with(fail)
     generalize bn:w2.setCell ⟨g,D.length*3+2,none⟩ (.int .i64 wd)=w3 at ay |-;clear bn cw fw aK R;have c8:=ay.out.rcell;go_wp2_with fail;refine(xV y m _ (by omega) aZ).mono ?_;rintro e w' ⟨rfl,rfl⟩;by_cases m0:0<m
     ·have bg:decide (0<(m:Int))=true:=dT (by omega);have E3:Hid ((if 0<m then [(⟨3,(bl y).take m,0⟩:Pc)] else [])=[⟨3,(bl y).take m,0⟩]):=if_pos m0;go_wp2_with fail;refine(qQ w 3 m _ y _ aS aU (by simp;omega) ay.out).mono ?_;rintro e w4 ⟨rfl,aT⟩;have aF:=iV aT;have bm:Hid (FV s (D++[⟨qR wd,(bl F).take n,(wd:Int)⟩]++[⟨3,(bl y).take m,0⟩]) (y.extract m y.size)):=ag.out.drop aS (by simp;omega);have aV:=iV (oJ y m);have aL:Hid (nW (t.size+1) qs (bl t)=nW (z-1+1) (D++[⟨qR wd,(bl F).take n,(wd:Int)⟩]++[⟨3,(bl y).take m,0⟩]) (bl (y.extract m y.size))):=by
       show _=_;rw[aY.out,E3.out,lm,show z-1+1=z by omega]
      clear aT c8;go_wp2;go_roundw
      case rel=>exact⟨z-1,_,_,rfl,by have h1:=aV.out;have h2:=aE.out;have h3:=ae.out;omega,aL,aF,bm⟩
      case measure=>
       rw[aF.out.restSz,J.out.restSz];have h1:=aV.out;have h2:=aE.out;have h3:=ae.out;omega
     ·have bg:decide (0<(m:Int))=false:=dF (by omega);have mn:decide (0<m)=false:=dF (by omega);have aL:Hid (nW (t.size+1) qs (bl t)=nW (z-1+1) (D++[⟨qR wd,(bl F).take n,(wd:Int)⟩]) (bl y)):=by
       show _=_;rw[aY.out,if_neg m0,List.append_nil,show m=0 by omega,List.drop_zero,show z-1+1=z by omega]
      clear c8;go_wp2;go_roundw
      case rel=>exact⟨z-1,_,_,rfl,by have h2:=aE.out;have h3:=ae.out;omega,aL,ay,ag⟩
      case measure=>
       rw[ay.out.restSz,J.out.restSz];have h2:=aE.out;have h3:=ae.out;omega
 case rest=>
 clear ad ag J HA;obtain⟨K,y,rfl,HS,J,HA⟩:=hcut;have E0:Hid (xT (bl s)=wK (bl s) K (bl y)):=by show _=_;unfold xT;rw[iX,HN.out];simp only[HL.out,iX];rw[HS.out]
 clear HN HS HL;have c6:=J.out.rcell;have au:y.size<=s.size:=by have:=HA.out.le;omega
 have aB:K.length<=64:=by have:=HA.out.le;omega
 have i1:(s.size:Int)-(y.size:Int)<=(s.size:Int):=by omega
 go_upto_region 29 with(fail)
 cases hpf:Lib.hasPrefix (bl y) [45,114]
 ·have X:Hid (Lib.hasPrefix (bl y) (bl ⟨#[45,114]⟩)=false):=hpf;have HE:=iV (Ym (bl s) K y hpf);clear hpf;go_wp2_with fail;refine(uc _ _ _ X).mono ?_;rintro e w' ⟨rfl,rfl⟩;have aq:Hid (K.length<=200):=by show _<=_;omega
  by_cases h0:y.size=0
  ·have Z:y.toList=[]:=by rw[iY,kw y h0]
   have aa:y.toList.isEmpty=true:=by rw[Z];rfl
   have am:Hid (decide (y.size=0)=true):=dT h0;clear h0;go_upto_region 33 with(fail)
   obtain⟨i0,ah,al,V,ak⟩:=info_parts rN;obtain⟨A,c,R,H⟩:=J.out.lcell;have HO:=iV H;have fl:=J.out.lfree;have cr:=J.out.rcell;have aj:=J.out.sz;have aN:(K).length<=200:=aq.out;generalize ab:(K).length=NN at *;clear H;have NL:Hid (some w.heap.size≠(Value.slice A NN c).ownBlock):=by intro Z;have:=(HO.out.lt _ Z.symm).1;omega
   have NR:Hid (some (w.heap.size+1)≠(Value.slice A NN c).ownBlock):=by intro Z;have:=(HO.out.lt _ Z.symm).1;omega
   have M:w.heap.size<wc.heap.size:=by omega
   have ac:w.heap.size+1<wc.heap.size:=by omega
   have aO:¬ w.heap.size=wc.heap.size:=by omega
   have aQ:¬ w.heap.size+1=wc.heap.size:=by omega
   have CL:Hid ((wc.alloc (.cells #[.int .i64 1,.string ⟨#[]⟩,.int .i64 0] 310)).drew.cell? ⟨w.heap.size,0,none⟩=some (.slice A NN c)):=(World.cell?_alloc_lt wc _ ⟨w.heap.size,0,none⟩ M).trans R;have FL:Hid ((wc.alloc (.cells #[.int .i64 1,.string ⟨#[]⟩,.int .i64 0] 310)).drew.frozen? ⟨w.heap.size,0,none⟩=false):=((bR.alloc lr _).frozen (p:=⟨w.heap.size,0,none⟩) M).trans fl;have CR:Hid ((wc.alloc (.cells #[.int .i64 1,.string ⟨#[]⟩,.int .i64 0] 310)).drew.cell? ⟨w.heap.size+1,0,none⟩=some (.string y)):=(World.cell?_alloc_lt wc _ ⟨w.heap.size+1,0,none⟩ ac).trans cr
   go_region_law
    ((refine kr _ (by rfl) _ _ _ (by rfl) (w.heap.size+2) 310 i0 _ 3 32 Tryz.underlying256 ah al V ak rfl (by omega) (.slice A NN c) NN _ (by rfl) ((HO.out.alloc _).drew)
       (wc.heap.size+1) (some ⟨wc.heap.size,0,none⟩) 1 1 [.int .i64 1,.string ⟨#[]⟩,.int .i64 0] (by rfl) (qv wc _ _ _ _) (by simp[Value.oneCell']) (by unfold maxLen;omega) (by omega) (by simp;omega) ?_
      intro v1 w2 o2 g2 a2;obtain⟨A1,c1,rfl⟩:=jk o2;have an:w2.cell? ⟨w.heap.size,0,none⟩=some (.slice A NN c):=g2.cell CL.out NL.out;have aP:w2.frozen? ⟨w.heap.size,0,none⟩=false:=(World.frozen?_of_block (a:=⟨w.heap.size,0,none⟩) (g2.block w.heap.size (by simp;omega) NL.out)).trans FL.out;have aR:w2.cell? ⟨w.heap.size+1,0,none⟩=some (.string y):=g2.cell CR.out NR.out))
   all_goals
    go_wp2_with fail;refine bodyPost_ret (v:=.tuple #[.slice A1 (NN+1) c1,.string (s.extract 0 (s.size-y.size)),.string ⟨#[]⟩,.bool true]) (by simp[results,Tryz.results163,go_sem,an]) rfl ?_;exact ud E0.out HE.out am.out ab J.out.bel aj HO.out g2 o2
  ·have aa:y.toList.isEmpty=false:=by rw[iY,jB];exact dF h0
   have Z:¬ y.toList=[]:=by intro h;rw[h] at aa;simp at aa
   have am:Hid (decide (y.size=0)=false):=dF h0;clear h0;go_upto_region 33 with(fail)
   obtain⟨i0,ah,al,V,ak⟩:=info_parts rN;obtain⟨A,c,R,H⟩:=J.out.lcell;have HO:=iV H;have fl:=J.out.lfree;have cr:=J.out.rcell;have aj:=J.out.sz;have aN:(K).length<=200:=aq.out;generalize ab:(K).length=NN at *;clear H;have NL:Hid (some w.heap.size≠(Value.slice A NN c).ownBlock):=by intro Z;have:=(HO.out.lt _ Z.symm).1;omega
   have NR:Hid (some (w.heap.size+1)≠(Value.slice A NN c).ownBlock):=by intro Z;have:=(HO.out.lt _ Z.symm).1;omega
   have M:w.heap.size<wc.heap.size:=by omega
   have ac:w.heap.size+1<wc.heap.size:=by omega
   have aO:¬ w.heap.size=wc.heap.size:=by omega
   have aQ:¬ w.heap.size+1=wc.heap.size:=by omega
   have CL:Hid ((wc.alloc (.cells #[.int .i64 1,.string ⟨#[]⟩,.int .i64 0] 310)).drew.cell? ⟨w.heap.size,0,none⟩=some (.slice A NN c)):=(World.cell?_alloc_lt wc _ ⟨w.heap.size,0,none⟩ M).trans R;have FL:Hid ((wc.alloc (.cells #[.int .i64 1,.string ⟨#[]⟩,.int .i64 0] 310)).drew.frozen? ⟨w.heap.size,0,none⟩=false):=((bR.alloc lr _).frozen (p:=⟨w.heap.size,0,none⟩) M).trans fl;have CR:Hid ((wc.alloc (.cells #[.int .i64 1,.string ⟨#[]⟩,.int .i64 0] 310)).drew.cell? ⟨w.heap.size+1,0,none⟩=some (.string y)):=(World.cell?_alloc_lt wc _ ⟨w.heap.size+1,0,none⟩ ac).trans cr
   go_region_law
    ((refine kr _ (by rfl) _ _ _ (by rfl) (w.heap.size+2) 310 i0 _ 3 32 Tryz.underlying256 ah al V ak rfl (by omega) (.slice A NN c) NN _ (by rfl) ((HO.out.alloc _).drew)
       (wc.heap.size+1) (some ⟨wc.heap.size,0,none⟩) 1 1 [.int .i64 1,.string ⟨#[]⟩,.int .i64 0] (by rfl) (qv wc _ _ _ _) (by simp[Value.oneCell']) (by unfold maxLen;omega) (by omega) (by simp;omega) ?_
      intro v1 w2 o2 g2 a2;obtain⟨A1,c1,rfl⟩:=jk o2;have an:w2.cell? ⟨w.heap.size,0,none⟩=some (.slice A NN c):=g2.cell CL.out NL.out;have aP:w2.frozen? ⟨w.heap.size,0,none⟩=false:=(World.frozen?_of_block (a:=⟨w.heap.size,0,none⟩) (g2.block w.heap.size (by simp;omega) NL.out)).trans FL.out;have aR:w2.cell? ⟨w.heap.size+1,0,none⟩=some (.string y):=g2.cell CR.out NR.out))
   all_goals
    go_wp2_with fail;refine bodyPost_ret (v:=.tuple #[.slice A1 (NN+1) c1,.string (s.extract 0 (s.size-y.size)),.string ⟨#[]⟩,.bool false]) (by simp[results,Tryz.results163,go_sem,an]) rfl ?_;exact ud E0.out HE.out am.out ab J.out.bel aj HO.out g2 o2
 ·have X:Hid (Lib.hasPrefix (bl y) (bl ⟨#[45,114]⟩)=true):=hpf;obtain⟨Y,az⟩:∃ Y,Y=y.extract 2 y.size:=⟨_,rfl⟩
  have bo:Hid (y.extract (ByteArray.size ⟨#[45,114]⟩) y.size=Y):=az.symm;have HC:Hid (bl y=45::114::bl Y):=by show _=_;rw[az,lm];exact Yn hpf
  have bh:Y.size<=64:=by rw[az,oJ];omega
  have aI:¬ y.size=0:=by intro h;have:=HC.out;rw[kw y h] at this;cases this
  have fr:=J.out.rfree;have bA:Hid (FV s (K++[⟨2,(bl Y).take Y.size,0⟩]) Y):=by
   show FV _ _ _;have h2:2<=y.size:=by have:=congrArg List.length HC.out;rw[iX] at this;simp at this;omega
   rw[az];exact HA.out.drop h2 (by simp)
  clear hpf az;go_wp2_with fail;refine(sT _ _ _ X).mono ?_;rintro e w' ⟨rfl,rfl⟩;rw[bo.out];cases hnb:sS (bl Y)
  ·have aG:=iV hnb;have HE:=iV (Vr (bl s) K y Y ⟨#[]⟩ HC.out hnb ((bl s).length-y.size));have aa:y.toList.isEmpty=false:=by rw[iY,jB];exact dF aI
   have Z:¬ y.toList=[]:=by intro h;rw[h] at aa;simp at aa
   have am:Hid (decide (y.size=0)=false):=dF aI;have aq:Hid (K.length<=200):=by show _<=_;omega
   clear hnb aI;go_wp2_with fail;refine(jJ Y false _ (by omega) aG).mono ?_;rintro e w' ⟨rfl,rfl⟩;clear fr;go_upto_region 33 with(fail)
   obtain⟨i0,ah,al,V,ak⟩:=info_parts rN;obtain⟨A,c,R,H⟩:=J.out.lcell;have HO:=iV H;have fl:=J.out.lfree;have cr:=J.out.rcell;have aj:=J.out.sz;have aN:(K).length<=200:=aq.out;generalize ab:(K).length=NN at *;clear H;have NL:Hid (some w.heap.size≠(Value.slice A NN c).ownBlock):=by intro Z;have:=(HO.out.lt _ Z.symm).1;omega
   have NR:Hid (some (w.heap.size+1)≠(Value.slice A NN c).ownBlock):=by intro Z;have:=(HO.out.lt _ Z.symm).1;omega
   have M:w.heap.size<wc.heap.size:=by omega
   have ac:w.heap.size+1<wc.heap.size:=by omega
   have aO:¬ w.heap.size=wc.heap.size:=by omega
   have aQ:¬ w.heap.size+1=wc.heap.size:=by omega
   have CL:Hid ((wc.alloc (.cells #[.int .i64 1,.string ⟨#[]⟩,.int .i64 0] 310)).drew.cell? ⟨w.heap.size,0,none⟩=some (.slice A NN c)):=(World.cell?_alloc_lt wc _ ⟨w.heap.size,0,none⟩ M).trans R;have FL:Hid ((wc.alloc (.cells #[.int .i64 1,.string ⟨#[]⟩,.int .i64 0] 310)).drew.frozen? ⟨w.heap.size,0,none⟩=false):=((bR.alloc lr _).frozen (p:=⟨w.heap.size,0,none⟩) M).trans fl;have CR:Hid ((wc.alloc (.cells #[.int .i64 1,.string ⟨#[]⟩,.int .i64 0] 310)).drew.cell? ⟨w.heap.size+1,0,none⟩=some (.string y)):=(World.cell?_alloc_lt wc _ ⟨w.heap.size+1,0,none⟩ ac).trans cr
   go_region_law
    ((refine kr _ (by rfl) _ _ _ (by rfl) (w.heap.size+2) 310 i0 _ 3 32 Tryz.underlying256 ah al V ak rfl (by omega) (.slice A NN c) NN _ (by rfl) ((HO.out.alloc _).drew)
       (wc.heap.size+1) (some ⟨wc.heap.size,0,none⟩) 1 1 [.int .i64 1,.string ⟨#[]⟩,.int .i64 0] (by rfl) (qv wc _ _ _ _) (by simp[Value.oneCell']) (by unfold maxLen;omega) (by omega) (by simp;omega) ?_
      intro v1 w2 o2 g2 a2;obtain⟨A1,c1,rfl⟩:=jk o2;have an:w2.cell? ⟨w.heap.size,0,none⟩=some (.slice A NN c):=g2.cell CL.out NL.out;have aP:w2.frozen? ⟨w.heap.size,0,none⟩=false:=(World.frozen?_of_block (a:=⟨w.heap.size,0,none⟩) (g2.block w.heap.size (by simp;omega) NL.out)).trans FL.out;have aR:w2.cell? ⟨w.heap.size+1,0,none⟩=some (.string y):=g2.cell CR.out NR.out))
   all_goals
    go_wp2_with fail;refine bodyPost_ret (v:=.tuple #[.slice A1 (NN+1) c1,.string (s.extract 0 (s.size-y.size)),.string ⟨#[]⟩,.bool false]) (by simp[results,Tryz.results163,go_sem,an]) rfl ?_;exact ud E0.out HE.out am.out ab J.out.bel aj HO.out g2 o2
  ·have aG:=iV hnb;clear hnb aI;go_wp2_with fail;refine(jJ Y true _ (by omega) aG).mono ?_;rintro e w' ⟨rfl,rfl⟩;have aF:Hid (FU w (wc.setCell ⟨w.heap.size+1,0,none⟩ (.string Y)) K Y):=J.out.setRest Y;go_wp2_with fail;refine(qQ w 2 Y.size K Y _ lr bh (by omega) aF.out).mono ?_;rintro e w5 ⟨rfl,aH⟩;obtain⟨r5,aM⟩:∃ r5,r5=Y.extract Y.size Y.size:=⟨_,rfl⟩
   rw[<-aM] at aH;have aJ:r5.size=0:=by rw[aM,oJ];omega
   obtain⟨ap,ao⟩:∃ ap,ap=K++[(⟨2,(bl Y).take Y.size,0⟩:Pc)]:=⟨_,rfl⟩
   rw[<-ao] at aH;have HE:Hid (wK (bl s) K (bl y)=Jl (bl s) ap ((bl s).length-y.size) r5 Y):=by
    show _=_;rw[ao,I3];exact Vq (bl s) K y Y HC.out aG.out r5 aJ
   have aq:Hid (ap.length<=200):=by show _<=_;rw[ao];simp;omega
   have aD:=iV aH;have Z:r5.toList=[]:=by rw[iY,kw r5 aJ]
   have aa:r5.toList.isEmpty=true:=by rw[Z];rfl
   have am:Hid (decide (r5.size=0)=true):=dT aJ;clear aH aM aJ ao fr c6;go_upto_region 33 with(fail)
   obtain⟨i0,ah,al,V,ak⟩:=info_parts rN;obtain⟨A,c,R,H⟩:=aD.out.lcell;have HO:=iV H;have fl:=aD.out.lfree;have cr:=aD.out.rcell;have aj:=aD.out.sz;have aN:(ap).length<=200:=aq.out;generalize ab:(ap).length=NN at *;clear H;have NL:Hid (some w.heap.size≠(Value.slice A NN c).ownBlock):=by intro Z;have:=(HO.out.lt _ Z.symm).1;omega
   have NR:Hid (some (w.heap.size+1)≠(Value.slice A NN c).ownBlock):=by intro Z;have:=(HO.out.lt _ Z.symm).1;omega
   have M:w.heap.size<w5.heap.size:=by omega
   have ac:w.heap.size+1<w5.heap.size:=by omega
   have aO:¬ w.heap.size=w5.heap.size:=by omega
   have aQ:¬ w.heap.size+1=w5.heap.size:=by omega
   have CL:Hid ((w5.alloc (.cells #[.int .i64 1,.string ⟨#[]⟩,.int .i64 0] 310)).drew.cell? ⟨w.heap.size,0,none⟩=some (.slice A NN c)):=(World.cell?_alloc_lt w5 _ ⟨w.heap.size,0,none⟩ M).trans R;have FL:Hid ((w5.alloc (.cells #[.int .i64 1,.string ⟨#[]⟩,.int .i64 0] 310)).drew.frozen? ⟨w.heap.size,0,none⟩=false):=((bR.alloc lr _).frozen (p:=⟨w.heap.size,0,none⟩) M).trans fl;have CR:Hid ((w5.alloc (.cells #[.int .i64 1,.string ⟨#[]⟩,.int .i64 0] 310)).drew.cell? ⟨w.heap.size+1,0,none⟩=some (.string r5)):=(World.cell?_alloc_lt w5 _ ⟨w.heap.size+1,0,none⟩ ac).trans cr
   go_region_law
    ((refine kr _ (by rfl) _ _ _ (by rfl) (w.heap.size+2) 310 i0 _ 3 32 Tryz.underlying256 ah al V ak rfl (by omega) (.slice A NN c) NN _ (by rfl) ((HO.out.alloc _).drew)
       (w5.heap.size+1) (some ⟨w5.heap.size,0,none⟩) 1 1 [.int .i64 1,.string ⟨#[]⟩,.int .i64 0] (by rfl) (qv w5 _ _ _ _) (by simp[Value.oneCell']) (by unfold maxLen;omega) (by omega) (by simp;omega) ?_
      intro v1 w2 o2 g2 a2;obtain⟨A1,c1,rfl⟩:=jk o2;have an:w2.cell? ⟨w.heap.size,0,none⟩=some (.slice A NN c):=g2.cell CL.out NL.out;have aP:w2.frozen? ⟨w.heap.size,0,none⟩=false:=(World.frozen?_of_block (a:=⟨w.heap.size,0,none⟩) (g2.block w.heap.size (by simp;omega) NL.out)).trans FL.out;have aR:w2.cell? ⟨w.heap.size+1,0,none⟩=some (.string r5):=g2.cell CR.out NR.out))
   all_goals
    go_wp2_with fail;refine bodyPost_ret (v:=.tuple #[.slice A1 (NN+1) c1,.string (s.extract 0 (s.size-y.size)),.string Y,.bool true]) (by simp[results,Tryz.results163,go_sem,an]) rfl ?_;exact ud E0.out HE.out am.out ab aD.out.bel aj HO.out g2 o2
end
end Go.Proofs.YtkmjcombhjombaaGreatDoor
