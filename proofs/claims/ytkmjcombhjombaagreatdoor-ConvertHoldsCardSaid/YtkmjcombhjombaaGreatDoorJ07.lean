/- A part of the proof. -/
import Derived.Test.YtkmjcombhjombaaGreatDoorJ05
set_option maxRecDepth 100000
set_option maxHeartbeats 20000000
set_option linter.unusedVariables false
set_option linter.unusedSimpArgs false
namespace Go.Proofs.YtkmjcombhjombaaGreatDoor
variable{s:BA}{fmt kind:Int}{l r:LU}{acc ps:List Pc}{f i k n:Nat}{a c:UInt8}{p:UInt8->Bool}{w wr:World}
open Go.Proofs.Tryz
section
open Go.RowKit
theorem rA (s p:BA)(w:World)(h:Hid (Lib.hasPrefix (bl s) (bl p)=true)):Calls prog 131 #[.string s,.string p] w fun e w'=>e=.returned (.tuple #[.string (s.extract p.size s.size),.bool true])/\w=w':=
 (Tryz.strings_CutPrefix s p w).mono fun e w' ⟨H,D⟩=>⟨by
  have z:Lib.hasPrefix s.data.toList p.data.toList=true:=h.out;rw[H,z];have F:(⟨(Lib.trimPrefix s.data.toList p.data.toList).toArray⟩:BA)=s.extract p.size s.size:=by
   apply kG;rw[nj,ik];unfold Lib.trimPrefix;rw[z];simp[bl]
  rw[F],D.symm⟩
theorem sL (s p:BA)(w:World)(h:Hid (Lib.hasPrefix (bl s) (bl p)=false)):Calls prog 131 #[.string s,.string p] w fun e w'=>e=.returned (.tuple #[.string s,.bool false])/\w=w':=
 (Tryz.strings_CutPrefix s p w).mono fun e w' ⟨H,D⟩=>⟨by
  have z:Lib.hasPrefix s.data.toList p.data.toList=false:=h.out;rw[H,z];have F:(⟨(Lib.trimPrefix s.data.toList p.data.toList).toArray⟩:BA)=s:=by
   apply kG;rw[nj];unfold Lib.trimPrefix;rw[z];rfl
  rw[F],D.symm⟩
theorem mN (s p:BA)(b:Bool)(w:World)(h:Hid (Lib.hasPrefix (bl s) (bl p)=b)):Calls prog 210 #[.string s,.string p] w fun e w'=>e=.returned (.bool b)/\w=w':=
 (Tryz.strings_HasPrefix s p w).mono fun e w' ⟨D,z⟩=>⟨by rw[D,show Lib.hasPrefix s.data.toList p.data.toList=b from h.out],z.symm⟩
theorem xu (s:BA)(n:Nat)(w:World)(z:s.size<=9223372036854775807)(h:Hid (fS gf (bl s)=n)):Calls prog 217 #[.string s,.func (.func 214) #[] #[]] w fun e w'=>e=.returned (.int .i64 n)/\w=w':=by rw[<-h.out];exact pX s w z
theorem J6 (s:BA)(n:Nat)(w:World)(z:s.size<=9223372036854775807)(h:Hid (fS it (bl s)=n)):Calls prog 217 #[.string s,.func (.func 218) #[] #[]] w fun e w'=>e=.returned (.int .i64 n)/\w=w':=by rw[<-h.out];exact TI s w z
def wg (r:Option (List Pc×LU×LU))(w:World)(e:Ending)(w':World):Prop:=
 Bw w w'/\match r with
  | none=>∃ (A:OA) (n c:Nat) (p q:BA),e=.returned (.tuple #[.slice A n c,.string p,.string q,.bool false])
  | some (ps,p,q)=>∃ (A:OA) (c:Nat),e=.returned (.tuple #[.slice A ps.length c,.string ⟨p.toArray⟩,.string ⟨q.toArray⟩,.bool true])/\Rd w' 3 A ps.length (ps.flatMap Pc.cells)
theorem Gv.start (w:World)(s:BA):Gv w ((w.alloc (.cells #[.slice none 0 0] 256)).alloc (.cells #[.string s] 9)) [] s:=
 ⟨⟨none,0,by simp,World.ownsRow_nil _ _ _ _⟩,by simp,by simp,by simp,(bR.alloc lr _).alloc (by simp) _,by simp⟩
theorem Xg (h:Lib.hasPrefix l [c]=true):l=c::l.drop 1:=by
 cases l with
 | nil=>simp[Lib.hasPrefix] at h
 | cons a r=>simp[Lib.hasPrefix] at h;simp[h]
theorem abI (h:Lib.hasPrefix l [c]=false)(t:LU):l≠c::t:=by
 intro e;subst e;simp[Lib.hasPrefix] at h
theorem Po (h:fS gf l=0):lI (k+1) kind acc l=none:=by unfold lI;rw[if_pos h]
theorem Pp (D:fS gf l=n)(z:n≠0)(h:l.drop n=46::r):lI (k+1) kind acc l=lI k 6 (acc++[⟨kind,l.take n,0⟩]) r:=by
 subst D
 conv=>lhs;unfold lI
 rw[if_neg z,h];simp
theorem Pq (D:fS gf l=n)(z:n≠0)(h:∀ r,l.drop n≠46::r):lI (k+1) kind acc l=some (acc++[⟨kind,l.take n,0⟩],l.drop n):=by
 subst D
 conv=>lhs;unfold lI
 rw[if_neg z];split
 ·rename_i r F;exact absurd F (h r)
 ·rfl
def restSz (w wr:World):Nat:=match wr.cell? ⟨w.heap.size+1,0,none⟩ with | some (.string r)=>r.size | _=>0
theorem Gv.restSz {r:BA}(h:Gv w wr ps r):restSz w wr=r.size:=by unfold Go.Proofs.YtkmjcombhjombaaGreatDoor.restSz;rw[h.rcell]
theorem iP (r:BA)(n:Nat):(r.extract n r.size).size=r.size-n:=by
 have:=congrArg List.length (ik r n);rw[fI,List.length_drop,fI] at this;exact this
structure Gw (s:BA) (ps:List Pc) (r:BA):Prop where
 le:ps.length+r.size<=s.size
 tail:bl r=(bl s).drop (s.size-r.size)
theorem Gw.start (s:BA):Gw s [] s:=⟨by simp,by simp⟩
theorem Gw.drop {qs:List Pc}{r:BA}(h:Gw s ps r)(D:n<=r.size)(F:qs.length<=ps.length+n):Gw s qs (r.extract n r.size):=by
 have z:=iP r n;refine⟨by rw[z];have:=h.le;omega,?_⟩;rw[ik,h.tail,List.drop_drop,z];congr 1;have:=h.le;omega
def Xh:LU->Bool
 | c::_=>it c
 | []=>false
theorem Xi (h:Xh l=false):mr acc l=(acc,l):=by
 cases l with
 | nil=>rfl
 | cons c r=>simp only[Xh] at h;simp[mr,h]
theorem Ua (h:Xh l=true):mr acc l=(acc++[⟨5,l.take 1,0⟩],l.drop 1):=by
 cases l with
 | nil=>simp[Xh] at h
 | cons c r=>simp only[Xh] at h;simp[mr,h]
theorem Z6 {r:BA}(h:Xh (bl r)=true):0<r.size:=by
 rcases Nat.eq_zero_or_pos r.size with z | z
 ·rw[hZ r z] at h;simp[Xh] at h
 ·exact z
theorem Ps (h:∀ t,l≠95::t):km (k+1) acc l=some (acc,l):=by
 unfold km;split
 ·rename_i r;exact absurd rfl (h r)
 ·rfl
theorem Sk (x:LU):∀ (l:List (LU))(k:Nat),GK l x=some k->k<l.length
 | [],k,h=>by simp[GK] at h
 | a::r,k,h=>by
  unfold GK at h;split at h
  ·injection h with h;subst h;simp
  ·obtain⟨j,z,rfl⟩:=Option.map_eq_some_iff.1 h;have:=Sk x r j z;simp;omega
theorem Ub (h:lK l=some k):k<9:=Sk l J5 k h
def pi (wd:Nat):Int:=if 4<=wd then 4 else 0
theorem Pt (z:fS it r=n)(h:lK (r.take n)=none):km (k+1) acc (95::r)=none:=by
 subst z
 conv=>lhs;unfold km
 simp only[h]
theorem Pu {m wd:Nat}(D:fS it r=n)(h:lK (r.take n)=some wd)(z:fS gf (r.drop n)=m):
  km (k+1) acc (95::r)=km k (acc++[⟨pi wd,r.take n,wd⟩]++(if 0<m then [⟨3,(r.drop n).take m,0⟩] else [])) ((r.drop n).drop m):=by
 subst D z
 conv=>lhs;unfold km
 simp only[h,pi]
theorem Gv.setWord {x:Pc}{r:BA}(h:Gv w wr (ps++[x]) r)(z:Int){g c N:Nat}(hN:N=ps.length+1)(H:wr.cell? ⟨w.heap.size,0,none⟩=some (.slice (some ⟨g,0,none⟩) N c)):
  Gv w (wr.setCell ⟨g,ps.length*3+2,none⟩ (.int .i64 z)) (ps++[{ x with word:=z }]) r:=by
 obtain⟨⟨A,R,J,I⟩,h3,U,X,K,V⟩:=h;rw[J] at H;injection H with H;injection H with hA _ hcc;subst hA hcc;have aa:=(I.lt g rfl)
 have F:wr.grownBy (wr.setCell ⟨g,ps.length*3+2,none⟩ (.int .i64 z)) (some g):=fX (World.grownBy.refl wr (some g)) (.inl rfl) _;have M:(ps++[x]).length=(ps++[{ x with word:=z }]).length:=by simp
 have D:=(I.stored (ps.length*3+2) (.int .i64 z)).1;have Y:((ps++[x]).flatMap Pc.cells).set (ps.length*3+2) (.int .i64 z)=(ps++[{ x with word:=z }]).flatMap Pc.cells:=by
  have Z:(ps.flatMap Pc.cells).length=ps.length*3:=mw J4 ps;rw[List.flatMap_append,List.flatMap_append,List.set_append_right _ _ (by omega),Z,show ps.length*3+2-ps.length*3=2 from by omega];simp[Pc.cells]
 rw[Y] at D;refine⟨⟨some ⟨g,0,none⟩,R,F.cell (by rw[<-M];exact J) (by simp;omega),by rw[<-M];exact D⟩,by rw[World.frozen?_setCell];exact h3,F.cell U (by simp;omega),by rw[World.frozen?_setCell];exact X,K.grown F K.size (fun j O=>by injection O with O;omega),Nat.le_trans V F.size⟩
def J7 (l:LU)(acc:List Pc)(k:Nat)(r q:BA):Option (List Pc×LU×LU):=if r.size=0 then some (acc++[⟨1,[],0⟩],l.take k,bl q) else none
theorem Z7 (l:LU)(z:List Pc)(r:BA)(h:Lib.hasPrefix (bl r) [45,114]=false):tF l z (bl r)=J7 l z (l.length-r.size) r ⟨#[]⟩:=by
 unfold J7;by_cases D:r.size=0
 ·rw[if_pos D,hZ r D,D];simp[tF,bl]
 ·rw[if_neg D];have H:=mL r (by omega);unfold tF;split
  ·rename_i F;rw[F] at H;cases H
  ·rename_i t F;rw[F] at h;simp[Lib.hasPrefix] at h
  ·rfl
theorem Z8 (h:Lib.hasPrefix l [45,114]=true):l=45::114::l.drop 2:=by
 cases l with
 | nil=>simp[Lib.hasPrefix] at h
 | cons a r=>
  cases r with
  | nil=>simp[Lib.hasPrefix] at h
  | cons b r=>simp[Lib.hasPrefix] at h;simp[h.1,h.2]
theorem Xj (l:LU)(z:List Pc)(r t:BA)(h:bl r=45::114::bl t)(H:rx (bl t)=true)(e:BA)(D:e.size=0):tF l z (bl r)=J7 l (z++[⟨2,bl t,0⟩]) (l.length-r.size) e t:=by
 unfold J7;have F:=congrArg List.length h;rw[fI] at F;rw[if_pos D,h,tF,if_pos H,<-h,fI]
theorem Xk (l:LU)(z:List Pc)(r t q:BA)(h:bl r=45::114::bl t)(F:rx (bl t)=false)(k:Nat):tF l z (bl r)=J7 l z k r q:=by
 unfold J7;have D:=congrArg List.length h;rw[fI] at D;rw[if_neg (by simp at D;omega),h,tF,if_neg (by rw[F];simp)]
theorem sM {W w2:World}{r2 r q:BA}{ps0:List Pc}{NN:Nat}{A A1:OA}{c c1:Nat}{b:Bool}{o:Obj}(Y:rz (bl s)=tF (bl s) ps0 (bl r2))(X:tF (bl s) ps0 (bl r2)=J7 (bl s) ps ((bl s).length-r2.size) r q)(J:decide (r.size=0)=b)(hn:ps.length=NN)
  (z:Bw w W)(aa:w.heap.size+2<=W.heap.size)(R:W.ownsRow (w.heap.size+2) 310 3 (.slice A NN c) NN (ps.flatMap Pc.cells))(O:(W.alloc o).drew.grownBy w2 (Value.slice A NN c).ownBlock)
  (M:w2.ownsRow (w.heap.size+2) 310 3 (.slice A1 (NN+1) c1) (NN+1) (ps.flatMap Pc.cells++[.int .i64 1,.string ⟨#[]⟩,.int .i64 0])):
  wg (rz (bl s)) w (.returned (.tuple #[.slice A1 (NN+1) c1,.string (s.extract 0 (s.size-r2.size)),.string q,.bool b])) (w2.setCell ⟨w.heap.size,0,none⟩ (.slice A1 (NN+1) c1)):=by
 have I:Bw w w2:=(gh (z.alloc z.size o) 1).grown O (by simp;omega) (fun j D=>by have:=(R.lt j D).1;omega);have K:w2.grownBy (w2.setCell ⟨w.heap.size,0,none⟩ (.slice A1 (NN+1) c1)) (some w.heap.size):=fX (World.grownBy.refl w2 (some w.heap.size)) (.inl rfl) _;refine⟨I.grown K I.size (fun j D=>by injection D with D;omega),?_⟩;rw[Y,X];unfold J7;cases b with
 | false=>
  rw[if_neg (of_decide_eq_false J)];exact⟨_,_,_,_,_,rfl⟩
 | true=>
  rw[if_pos (dO J)];have F:(ps++[(⟨1,[],0⟩:Pc)]).length=NN+1:=by simp[hn]
  have Z:(ps++[(⟨1,[],0⟩:Pc)]).flatMap Pc.cells=ps.flatMap Pc.cells++[.int .i64 1,.string ⟨#[]⟩,.int .i64 0]:=by rw[List.flatMap_append];rfl
  refine⟨A1,c1,?_,?_⟩
  ·rw[F];have U:(⟨((bl s).take ((bl s).length-r2.size)).toArray⟩:BA)=s.extract 0 (s.size-r2.size):=by apply kG;rw[nj,jp,fI]
   have V:(⟨(bl q).toArray⟩:BA)=q:=by apply kG;rw[nj]
   simp only[U,V]
  ·rw[F,Z];refine gR (M.kept K ?_);cases hq:(Value.slice A1 (NN+1) c1).ownBlock with
   | none=>exact .inl rfl
   | some k=>right;intro H;injection H with H;have:=(M.lt k hq).1;omega
theorem qw (s:BA)(w:World)(hG:Gl w)(hs:s.size<=64):Calls prog 163 #[.string s] w (wg (rz (bl s)) w):=by
 have HG:=fH hG;clear hG;go_in;go_upto_block 0 with(fail)
 go_cut [4,8] (fun s4 s8 wx=>∃ (kd:Int) (F:List Pc) (r:BA),s4=.string ⟨#[]⟩/\s8=.int .i64 kd/\Hid (lI (s.size+1) 7 [] (bl s)=some (F,bl r))/\Hid (Gv w wx F r)/\Hid (Gw s F r))
 case first=>
  go_wp2;go_loopw [4,8] (fun s4 s8 wr=>∃ (D:Nat) (kd:Int) (F:List Pc) (r:BA),s4=.string ⟨#[]⟩/\s8=.int .i64 kd/\r.size<=D/\Hid (lI (s.size+1) 7 [] (bl s)=lI (D+1) kd F (bl r))/\Hid (Gv w wr F r)/\Hid (Gw s F r)) (fun _ _ wr=>restSz w wr)
  case atStart=>exact⟨s.size,7,[],s,rfl,rfl,lr,rfl,Gv.start w s,Gw.start s⟩
  case round=>
   obtain⟨D,kd,F,r,rfl,rfl,bp,HN,K,HA⟩:=hrel;have c6:=K.rcell;have av:r.size<=64:=by have:=HA.le;omega
   have aB:F.length<=1000:=by have:=HA.le;omega
   obtain⟨n,hn⟩:∃ n,n=fS gf (bl r):=⟨_,rfl⟩
   have ag:Hid (fS gf (bl r)=n):=hn.symm;have aE:n<=r.size:=by have:=jI gf (bl r);rw[fI] at this;omega
   clear hn;go_wp2_with fail;refine mb (xu r n _ (by omega) ag) ?_;rintro w' rfl;by_cases n0:n=0
   ·have bm:((n:Int)==0)=true:=oG n0;have E:Hid (rz (bl s)=none):=by show _=_;unfold rz;rw[fI,HN.out,Po (by rw[ag.out];exact n0)]
    obtain⟨A,c,U,I⟩:=K.lcell;have fl:=K.lfree;clear n0 I;go_wp2_with fail;refine bodyPost_ret (v:=.tuple #[.slice none 0 0,.string ⟨#[]⟩,.string ⟨#[]⟩,.bool false]) (by simp[results,results163,go_sem,U]) rfl ?_;rw[E.out];exact⟨K.bel.setCell lr _,none,0,0,_,_,rfl⟩
   ·have bm:((n:Int)==0)=false:=nz n0;have N0:GG (n=0):=⟨n0⟩
    clear n0;go_wp2_with fail;refine mb (ph w kd n F r _ aE av aB K) ?_;rintro w1 ar;have V:=fH ar;have ah:Hid (Gw s (F++[⟨kd,(bl r).take n,0⟩]) (r.extract n r.size)):=HA.drop aE (by have:=N0.out;simp;omega);have c7:=ar.rcell;have BD:=fH (ik r n);have X:=iP r n;have ae:=fH X;clear ar c6 X;cases hpf:Lib.hasPrefix (bl (r.extract n r.size)) [46]
    ·have Y:Hid (Lib.hasPrefix (bl (r.extract n r.size)) (bl ⟨#[46]⟩)=false):=hpf;have HR:Hid (lI (s.size+1) 7 [] (bl s)=some (F++[⟨kd,(bl r).take n,0⟩],bl (r.extract n r.size))):=by
      show _=_;rw[HN.out,Pq ag.out N0.out (fun t=>by rw[<-BD.out];exact abI hpf t),BD.out]
     clear hpf;go_wp2_with fail;refine mb (sL _ _ _ Y) ?_;rintro w' rfl;go_wp2;go_meet;exact⟨kd,_,_,rfl,rfl,HR,V,ah⟩
    ·have Y:Hid (Lib.hasPrefix (bl (r.extract n r.size)) (bl ⟨#[46]⟩)=true):=hpf;have J:=Xg hpf;obtain⟨H,R⟩:∃ H,H=r.extract n r.size:=⟨_,rfl⟩
     have bj:=fH R;have az:1<=H.size:=by
      rcases Nat.eq_zero_or_pos H.size with h0 | h0
      ·have h2:=hZ H h0;rw[R] at h2;rw[h2] at J;cases J
      ·exact h0
     have HR:Hid (lI (s.size+1) 7 [] (bl s)=lI (D-1+1) 6 (F++[⟨kd,(bl r).take n,0⟩]) (bl (H.extract 1 H.size))):=by
      show _=_;have bo:D-1+1=D:=by have h1:=ae.out;rw[<-R] at h1;omega
      rw[ik H 1,R,HN.out,Pp ag.out N0.out (by rw[<-BD.out];exact J),bo]
     have bt:Hid ((H.extract 1 H.size).size<=D-1):=by show _<=_;rw[iP];have h1:=ae.out;rw[<-R] at h1;have:=N0.out;omega
     rw[<-R] at V ah Y c7;have fr:=V.rfree;have af:Hid (Gw s (F++[⟨kd,(bl r).take n,0⟩]) (H.extract 1 H.size)):=ah.drop az (by omega);have ad:=fH (V.setRest (H.extract 1 H.size));have bf:Hid (H.size=r.size-n):=by have:=ae.out;rw[<-R] at this;exact this
     clear hpf J R;go_wp2_with fail;refine mb (rA _ _ _ Y) ?_;rintro w' rfl;go_wp2;go_roundw
     case rel=>exact⟨D-1,6,_,_,rfl,rfl,bt,HR,ad,af⟩
     case measure=>
      rw[ad.out.restSz,K.out.restSz,iP];have:=bf.out;have:=N0.out;omega
 case rest=>
 obtain⟨kd,F,r,rfl,rfl,HN,K,HA⟩:=hcut;have c6:=K.rcell;have av:r.size<=64:=by have:=HA.le;omega
 go_upto_region 12 with(fail)
 go_cut [42] (fun bk wx=>bk=.bool (Xh (bl r))/\wc=wx)
 case first=>
  by_cases h0:r.size=0
  ·have he:r.toList=[]:=by rw[fK,hZ r h0]
   have ac:r.toList.isEmpty=true:=by rw[he];rfl
   have E:Hid (Xh (bl r)=false):=by show _=_;rw[hZ r h0];rfl
   clear h0;go_wp2;go_meet;exact⟨by rw[E.out],rfl⟩
  ·have ac:r.toList.isEmpty=false:=by rw[fK,gu];exact dF h0
   have he:¬ r.toList=[]:=by intro h;rw[h] at ac;simp at ac
   have bc:0<r.size:=by omega
   have E:Hid (Xh (bl r)=it r[0]):=by show _=_;rw[mL r bc];rfl
   clear h0;go_wp2_with fail;refine mb (rt r[0] _) ?_;rintro w' rfl;go_wp2;go_meet;exact⟨by rw[E.out],rfl⟩
 case rest=>
 obtain⟨rfl,rfl⟩:=hcut;go_upto_if 42 with(fail)
 go_cut [44] (fun _ wx=>∃ (qs:List Pc) (t:BA),Hid (mr F (bl r)=(qs,bl t))/\Hid (Gv w wx qs t)/\Hid (Gw s qs t))
 case first=>
  cases O:Xh (bl r)
  ·have E:Hid (mr F (bl r)=(F,bl r)):=Xi O;clear O;go_wp2;go_meet;exact⟨F,r,E,K,HA⟩
  ·have bc:0<r.size:=Z6 O;have E:Hid (mr F (bl r)=(F++[⟨5,(bl r).take 1,0⟩],bl (r.extract 1 r.size))):=by show _=_;rw[ik];exact Ua O
   have aB:F.length<=1000:=by have:=HA.le;omega
   clear O;go_wp2_with fail;refine mb (ph w 5 1 F r _ (by omega) av aB K) ?_;rintro w1 ar;have V:=fH ar;have ah:Hid (Gw s (F++[⟨5,(bl r).take 1,0⟩]) (r.extract 1 r.size)):=HA.drop (by omega) (by simp);clear ar;go_wp2;go_meet;exact⟨_,_,E,V,ah⟩
 case rest=>
 obtain⟨qs,t,HL,ad,af⟩:=hcut;clear c6 av;go_upto_block 2 with(fail)
 go_cut [4] (fun s4 wx=>∃ (F:List Pc) (r:BA),s4=.string ⟨#[]⟩/\Hid (km (t.size+1) qs (bl t)=some (F,bl r))/\Hid (Gv w wx F r)/\Hid (Gw s F r))
 case first=>
  clear K HA;go_wp2;go_loopw [4] (fun s4 wr=>∃ (D:Nat) (F:List Pc) (r:BA),s4=.string ⟨#[]⟩/\r.size<=D/\Hid (km (t.size+1) qs (bl t)=km (D+1) F (bl r))/\Hid (Gv w wr F r)/\Hid (Gw s F r)) (fun _ wr=>restSz w wr)
  case atStart=>exact⟨t.size,qs,t,rfl,lr,rfl,ad,af⟩
  case round=>
   clear ad af;obtain⟨D,F,r,rfl,bp,HS,K,HA⟩:=hrel;have c6:=K.rcell;have av:r.size<=64:=by have:=HA.le;omega
   have aB:F.length<=64:=by have:=HA.le;omega
   cases hpf:Lib.hasPrefix (bl r) [95]
   ·have Y:Hid (Lib.hasPrefix (bl r) (bl ⟨#[95]⟩)=false):=hpf;have HR:Hid (km (t.size+1) qs (bl t)=some (F,bl r)):=by show _=_;rw[HS.out,Ps (abI hpf)]
    clear hpf;go_wp2_with fail;refine mb (mN r ⟨#[95]⟩ false _ Y) ?_;rintro w' rfl;go_wp2;go_meet;exact⟨F,r,rfl,HR,K,HA⟩
   ·have Y:Hid (Lib.hasPrefix (bl r) (bl ⟨#[95]⟩)=true):=hpf;have J:=Xg hpf;have az:1<=r.size:=by
     rcases Nat.eq_zero_or_pos r.size with h0 | h0
     ·rw[hZ r h0] at J;cases J
     ·exact h0
    have fr:=K.rfree;obtain⟨H,R⟩:∃ H,H=r.extract 1 r.size:=⟨_,rfl⟩
    have X:H.size=r.size-1:=by rw[R];exact iP r 1
    have aU:Hid (bl r=95::bl H):=by show _=_;rw[R,ik];exact J
    have V:Hid (Gv w (wr.setCell ⟨w.heap.size+1,0,none⟩ (.string H)) F H):=K.setRest H;have ah:Hid (Gw s F H):=by show Gw _ _ _;rw[R];exact HA.drop az (by omega)
    have bj:=fH R;have ae:=fH X;obtain⟨n,hn⟩:∃ n,n=fS it (bl H):=⟨_,rfl⟩
    have ag:Hid (fS it (bl H)=n):=hn.symm;have aE:n<=H.size:=by have:=jI it (bl H);rw[fI] at this;omega
    clear hpf J X hn;go_upto_region 16 with(first | (go_at_call 210;refine mb (mN r ⟨#[95]⟩ true _ Y) ?_;rintro w' rfl) | fail)
    rw[<-R];have bv:=fH R;clear R c6 fr;generalize bh:wr.setCell ⟨w.heap.size+1,0,none⟩ (.string H)=w1 at V |-;clear bh;have c7:=V.rcell;have aZ:H.size<=64:=by have:=ae.out;omega
    go_wp2_with fail;refine mb (J6 H n _ (by omega) ag) ?_;rintro w' rfl;have bu:(n:Int)<=(H.size:Int):=by omega
    go_wp2_with fail;refine mb (Da (H.extract 0 n) _ (HG.below V.bel)) ?_;rintro w' rfl;cases hwd:lK ((bl H).take n) with
    | none=>
     have aA:wIx (H.extract 0 n)=-1:=by unfold wIx;rw[jp,hwd]
     have E:Hid (rz (bl s)=none):=by show _=_;unfold rz;rw[fI,HN.out];simp only[HL.out,fI];rw[HS.out,aU.out,Pt ag.out hwd]
     rw[aA];obtain⟨A,c,U,I⟩:=V.lcell;have fl:=V.lfree;clear hwd aA I;go_wp2_with fail;refine bodyPost_ret (v:=.tuple #[.slice none 0 0,.string ⟨#[]⟩,.string ⟨#[]⟩,.bool false]) (by simp[results,results163,go_sem,U]) rfl ?_;rw[E.out];exact⟨V.bel.setCell lr _,none,0,0,_,_,rfl⟩
    | some wd=>
     have aA:wIx (H.extract 0 n)=(wd:Int):=by unfold wIx;rw[jp,hwd]
     rw[aA];have bq:=fH hwd;have bw:wd<9:=Ub hwd;clear hwd aA;go_upto_if 58 with(fail)
     go_cut [14] (fun bn wx=>bn=.int .i64 (pi wd)/\w1=wx)
     case first=>
      by_cases h4:4<=wd
      ·have E4:Hid (pi wd=4):=by show _=_;unfold pi;rw[if_pos h4]
       go_wp2;go_meet;exact⟨by rw[E4.out],rfl⟩
      ·have E4:Hid (pi wd=0):=by show _=_;unfold pi;rw[if_neg h4]
       go_wp2;go_meet;exact⟨by rw[E4.out],rfl⟩
     case rest=>
     obtain⟨rfl,rfl⟩:=hcut;go_wp2_with fail;refine mb (ph w (pi wd) n F H _ aE aZ (by omega) V) ?_;rintro w2 bb;have ad:=fH bb;obtain⟨z,ap⟩:∃ z,z=H.extract n H.size:=⟨_,rfl⟩
     rw[<-ap] at ad;have ay:Hid (z.size=H.size-n):=by show _=_;rw[ap];exact iP H n
     have aY:Hid (bl z=(bl H).drop n):=by show _=_;rw[ap];exact ik H n
     have bD:1<=n\/n=0:=by omega
     have af:Hid (Gw s (F++[⟨pi wd,(bl H).take n,(wd:Int)⟩]) z):=by
      show Gw _ _ _;have h1:Gw s (F++[⟨pi wd,(bl H).take n,(wd:Int)⟩]) H:=⟨by have:=HA.le;have:=ae.out;simp;omega,ah.tail⟩
      rw[ap];exact h1.drop aE (by omega)
     obtain⟨A,c,U,I⟩:=ad.lcell;obtain⟨g,cap,hv,_,bi⟩:=I.form (by simp);obtain⟨rfl,rfl⟩:A=some ⟨g,0,none⟩/\c=cap:=by injection hv with h1 _ h2;exact⟨h1,h2⟩
     obtain⟨N,hN⟩:∃ N,N=F.length+1:=⟨_,rfl⟩
     have eN:(F++[(⟨pi wd,(bl H).take n,0⟩:Pc)]).length=N:=by rw[hN];simp
     rw[eN] at U;have ax:Hid (Gv w (w2.setCell ⟨g,F.length*3+2,none⟩ (.int .i64 wd)) (F++[⟨pi wd,(bl H).take n,(wd:Int)⟩]) z):=ad.setWord wd hN U;have bB:N<=1000:=by omega
     have bC:1<=N:=by omega
     have cw:w2.cell? ⟨g,F.length*3+2,none⟩=some (.int .i64 0):=by
      rw[I.cellAt (F.length*3+2) (by simp;omega),pO J4 _ F.length 2 ⟨pi wd,(bl H).take n,0⟩ (by simp) (by omega)];rfl
     have fw:w2.frozen? ⟨g,F.length*3+2,none⟩=false:=I.frozenAt _;have aK:=fun W=>Ch (T:=256) (E:=310) (sz:=3) (c:=c) (n:=N) (k:=F.length) (i:=(N:Int)-1) underlying256 rfl sizeOf310 (by omega) (A:=some ⟨g,0,none⟩) rfl (by omega) W;simp only[Nat.zero_add] at aK;have bx:=fH hN;obtain⟨m,hm⟩:∃ m,m=fS gf (bl z):=⟨_,rfl⟩
     have aW:Hid (fS gf (bl z)=m):=hm.symm;have aX:m<=z.size:=by have:=jI gf (bl z);rw[fI] at this;omega
     have ba:z.size<=64:=by have:=ay.out;omega
     have aS:Hid (km (t.size+1) qs (bl t)=km D (F++[⟨pi wd,(bl H).take n,(wd:Int)⟩]++(if 0<m then [⟨3,(bl z).take m,0⟩] else [])) ((bl z).drop m)):=by
      show _=_;rw[HS.out,aU.out,Pu (m:=m) ag.out bq.out (by rw[<-aY.out];exact aW.out),aY.out]
     have bA:=fH ap;clear bb I hv bi hN eN hm c7 ap;go_upto_region 25 with(fail)
     generalize br:w2.setCell ⟨g,F.length*3+2,none⟩ (.int .i64 wd)=w3 at ax |-;clear br cw fw aK U;have c8:=ax.rcell;go_wp2_with fail;refine mb (xu z m _ (by omega) aW) ?_;rintro w' rfl;by_cases m0:0<m
     ·have be:decide (0<(m:Int))=true:=dT (by omega);have E3:Hid ((if 0<m then [(⟨3,(bl z).take m,0⟩:Pc)] else [])=[⟨3,(bl z).take m,0⟩]):=if_pos m0;go_wp2_with fail;refine mb (ph w 3 m _ z _ aX ba (by simp;omega) ax) ?_;rintro w4 aT;have aF:=fH aT;have bg:Hid (Gw s (F++[⟨pi wd,(bl H).take n,(wd:Int)⟩]++[⟨3,(bl z).take m,0⟩]) (z.extract m z.size)):=af.drop aX (by simp;omega);have aV:=fH (iP z m);have aM:Hid (km (t.size+1) qs (bl t)=km (D-1+1) (F++[⟨pi wd,(bl H).take n,(wd:Int)⟩]++[⟨3,(bl z).take m,0⟩]) (bl (z.extract m z.size))):=by
       show _=_;rw[aS.out,E3.out,ik,show D-1+1=D by omega]
      clear aT c8;go_wp2;go_roundw
      case rel=>exact⟨D-1,_,_,rfl,by have h1:=aV.out;have h2:=ay.out;have h3:=ae.out;omega,aM,aF,bg⟩
      case measure=>
       rw[aF.out.restSz,K.out.restSz];have h1:=aV.out;have h2:=ay.out;have h3:=ae.out;omega
     ·have be:decide (0<(m:Int))=false:=dF (by omega);have mn:decide (0<m)=false:=dF (by omega);have aM:Hid (km (t.size+1) qs (bl t)=km (D-1+1) (F++[⟨pi wd,(bl H).take n,(wd:Int)⟩]) (bl z)):=by
       show _=_;rw[aS.out,if_neg m0,List.append_nil,show m=0 by omega,List.drop_zero,show D-1+1=D by omega]
      clear c8;go_wp2;go_roundw
      case rel=>exact⟨D-1,_,_,rfl,by have h2:=ay.out;have h3:=ae.out;omega,aM,ax,af⟩
      case measure=>
       rw[ax.out.restSz,K.out.restSz];have h2:=ay.out;have h3:=ae.out;omega
 case rest=>
 clear ad af K HA;obtain⟨M,z,rfl,HS,K,HA⟩:=hcut;have E0:Hid (rz (bl s)=tF (bl s) M (bl z)):=by show _=_;unfold rz;rw[fI,HN.out];simp only[HL.out,fI];rw[HS.out]
 clear HN HS HL;have c6:=K.rcell;have av:z.size<=s.size:=by have:=HA.le;omega
 have aB:M.length<=64:=by have:=HA.le;omega
 have i1:(s.size:Int)-(z.size:Int)<=(s.size:Int):=by omega
 go_upto_region 29 with(fail)
 cases hpf:Lib.hasPrefix (bl z) [45,114]
 ·have Y:Hid (Lib.hasPrefix (bl z) (bl ⟨#[45,114]⟩)=false):=hpf;have HE:=fH (Z7 (bl s) M z hpf);clear hpf;go_wp2_with fail;refine mb (sL _ _ _ Y) ?_;rintro w' rfl;have aq:Hid (M.length<=200):=by show _<=_;omega
  by_cases h0:z.size=0
  ·have he:z.toList=[]:=by rw[fK,hZ z h0]
   have ac:z.toList.isEmpty=true:=by rw[he];rfl
   have al:Hid (decide (z.size=0)=true):=dT h0;clear h0;go_upto_region 33 with(fail)
   obtain⟨i0,an,aj,X,am⟩:=info_parts qv;obtain⟨A,c,U,I⟩:=K.lcell;have HO:=fH I;have fl:=K.lfree;have cr:=K.rcell;have ai:=K.sz;have aQ:(M).length<=200:=aq.out;generalize aa:(M).length=NN at *;clear I;have NL:Hid (some w.heap.size≠(Value.slice A NN c).ownBlock):=by intro he;have:=(HO.lt _ he.symm).1;omega
   have NR:Hid (some (w.heap.size+1)≠(Value.slice A NN c).ownBlock):=by intro he;have:=(HO.lt _ he.symm).1;omega
   have O:w.heap.size<wc.heap.size:=by omega
   have ab:w.heap.size+1<wc.heap.size:=by omega
   have aN:¬ w.heap.size=wc.heap.size:=by omega
   have aP:¬ w.heap.size+1=wc.heap.size:=by omega
   have CL:Hid ((wc.alloc (.cells #[.int .i64 1,.string ⟨#[]⟩,.int .i64 0] 310)).drew.cell? ⟨w.heap.size,0,none⟩=some (.slice A NN c)):=(World.cell?_alloc_lt wc _ ⟨w.heap.size,0,none⟩ O).trans U;have FL:Hid ((wc.alloc (.cells #[.int .i64 1,.string ⟨#[]⟩,.int .i64 0] 310)).drew.frozen? ⟨w.heap.size,0,none⟩=false):=((bR.alloc lr _).frozen (p:=⟨w.heap.size,0,none⟩) O).trans fl;have CR:Hid ((wc.alloc (.cells #[.int .i64 1,.string ⟨#[]⟩,.int .i64 0] 310)).drew.cell? ⟨w.heap.size+1,0,none⟩=some (.string z)):=(World.cell?_alloc_lt wc _ ⟨w.heap.size+1,0,none⟩ ab).trans cr
   go_region_law
    ((refine iF _ (by rfl) _ _ _ (by rfl) (w.heap.size+2) 310 i0 _ 3 32 underlying256 an aj X am rfl (by omega) (.slice A NN c) NN _ (by rfl) ((HO.alloc _).drew)
       (wc.heap.size+1) (some ⟨wc.heap.size,0,none⟩) 1 1 [.int .i64 1,.string ⟨#[]⟩,.int .i64 0] (by rfl) (oH wc _ _ _ _) (by simp[Value.oneCell']) (by unfold maxLen;omega) (by omega) (by simp;omega) ?_
      intro v1 w2 o2 g2 a2;obtain⟨A1,c1,rfl⟩:=gg o2;have ak:w2.cell? ⟨w.heap.size,0,none⟩=some (.slice A NN c):=g2.cell CL NL.out;have aR:w2.frozen? ⟨w.heap.size,0,none⟩=false:=(World.frozen?_of_block (a:=⟨w.heap.size,0,none⟩) (g2.block w.heap.size (by simp;omega) NL)).trans FL.out;have aL:w2.cell? ⟨w.heap.size+1,0,none⟩=some (.string z):=g2.cell CR NR))
   all_goals
    go_wp2_with fail;refine bodyPost_ret (v:=.tuple #[.slice A1 (NN+1) c1,.string (s.extract 0 (s.size-z.size)),.string ⟨#[]⟩,.bool true]) (by simp[results,results163,go_sem,ak]) rfl ?_;exact sM E0 HE al aa K.bel ai HO g2 o2
  ·have ac:z.toList.isEmpty=false:=by rw[fK,gu];exact dF h0
   have he:¬ z.toList=[]:=by intro h;rw[h] at ac;simp at ac
   have al:Hid (decide (z.size=0)=false):=dF h0;clear h0;go_upto_region 33 with(fail)
   obtain⟨i0,an,aj,X,am⟩:=info_parts qv;obtain⟨A,c,U,I⟩:=K.lcell;have HO:=fH I;have fl:=K.lfree;have cr:=K.rcell;have ai:=K.sz;have aQ:(M).length<=200:=aq.out;generalize aa:(M).length=NN at *;clear I;have NL:Hid (some w.heap.size≠(Value.slice A NN c).ownBlock):=by intro he;have:=(HO.lt _ he.symm).1;omega
   have NR:Hid (some (w.heap.size+1)≠(Value.slice A NN c).ownBlock):=by intro he;have:=(HO.lt _ he.symm).1;omega
   have O:w.heap.size<wc.heap.size:=by omega
   have ab:w.heap.size+1<wc.heap.size:=by omega
   have aN:¬ w.heap.size=wc.heap.size:=by omega
   have aP:¬ w.heap.size+1=wc.heap.size:=by omega
   have CL:Hid ((wc.alloc (.cells #[.int .i64 1,.string ⟨#[]⟩,.int .i64 0] 310)).drew.cell? ⟨w.heap.size,0,none⟩=some (.slice A NN c)):=(World.cell?_alloc_lt wc _ ⟨w.heap.size,0,none⟩ O).trans U;have FL:Hid ((wc.alloc (.cells #[.int .i64 1,.string ⟨#[]⟩,.int .i64 0] 310)).drew.frozen? ⟨w.heap.size,0,none⟩=false):=((bR.alloc lr _).frozen (p:=⟨w.heap.size,0,none⟩) O).trans fl;have CR:Hid ((wc.alloc (.cells #[.int .i64 1,.string ⟨#[]⟩,.int .i64 0] 310)).drew.cell? ⟨w.heap.size+1,0,none⟩=some (.string z)):=(World.cell?_alloc_lt wc _ ⟨w.heap.size+1,0,none⟩ ab).trans cr
   go_region_law
    ((refine iF _ (by rfl) _ _ _ (by rfl) (w.heap.size+2) 310 i0 _ 3 32 underlying256 an aj X am rfl (by omega) (.slice A NN c) NN _ (by rfl) ((HO.alloc _).drew)
       (wc.heap.size+1) (some ⟨wc.heap.size,0,none⟩) 1 1 [.int .i64 1,.string ⟨#[]⟩,.int .i64 0] (by rfl) (oH wc _ _ _ _) (by simp[Value.oneCell']) (by unfold maxLen;omega) (by omega) (by simp;omega) ?_
      intro v1 w2 o2 g2 a2;obtain⟨A1,c1,rfl⟩:=gg o2;have ak:w2.cell? ⟨w.heap.size,0,none⟩=some (.slice A NN c):=g2.cell CL NL.out;have aR:w2.frozen? ⟨w.heap.size,0,none⟩=false:=(World.frozen?_of_block (a:=⟨w.heap.size,0,none⟩) (g2.block w.heap.size (by simp;omega) NL)).trans FL.out;have aL:w2.cell? ⟨w.heap.size+1,0,none⟩=some (.string z):=g2.cell CR NR))
   all_goals
    go_wp2_with fail;refine bodyPost_ret (v:=.tuple #[.slice A1 (NN+1) c1,.string (s.extract 0 (s.size-z.size)),.string ⟨#[]⟩,.bool false]) (by simp[results,results163,go_sem,ak]) rfl ?_;exact sM E0 HE al aa K.bel ai HO g2 o2
 ·have Y:Hid (Lib.hasPrefix (bl z) (bl ⟨#[45,114]⟩)=true):=hpf;obtain⟨Z,aD⟩:∃ Z,Z=z.extract 2 z.size:=⟨_,rfl⟩
  have bs:Hid (z.extract (ByteArray.size ⟨#[45,114]⟩) z.size=Z):=aD.symm;have HC:Hid (bl z=45::114::bl Z):=by show _=_;rw[aD,ik];exact Z8 hpf
  have bd:Z.size<=64:=by rw[aD,iP];omega
  have aG:¬ z.size=0:=by intro h;have:=HC.out;rw[hZ z h] at this;cases this
  have fr:=K.rfree;have bz:Hid (Gw s (M++[⟨2,(bl Z).take Z.size,0⟩]) Z):=by
   show Gw _ _ _;have h2:2<=z.size:=by have:=congrArg List.length HC.out;rw[fI] at this;simp at this;omega
   rw[aD];exact HA.drop h2 (by simp)
  clear hpf aD;go_wp2_with fail;refine mb (rA _ _ _ Y) ?_;rintro w' rfl;rw[bs.out];cases hnb:rx (bl Z)
  ·have aH:=fH hnb;have HE:=fH (Xk (bl s) M z Z ⟨#[]⟩ HC hnb ((bl s).length-z.size));have ac:z.toList.isEmpty=false:=by rw[fK,gu];exact dF aG
   have he:¬ z.toList=[]:=by intro h;rw[h] at ac;simp at ac
   have al:Hid (decide (z.size=0)=false):=dF aG;have aq:Hid (M.length<=200):=by show _<=_;omega
   clear hnb aG;go_wp2_with fail;refine mb (gO Z false _ (by omega) aH) ?_;rintro w' rfl;clear fr;go_upto_region 33 with(fail)
   obtain⟨i0,an,aj,X,am⟩:=info_parts qv;obtain⟨A,c,U,I⟩:=K.lcell;have HO:=fH I;have fl:=K.lfree;have cr:=K.rcell;have ai:=K.sz;have aQ:(M).length<=200:=aq.out;generalize aa:(M).length=NN at *;clear I;have NL:Hid (some w.heap.size≠(Value.slice A NN c).ownBlock):=by intro he;have:=(HO.lt _ he.symm).1;omega
   have NR:Hid (some (w.heap.size+1)≠(Value.slice A NN c).ownBlock):=by intro he;have:=(HO.lt _ he.symm).1;omega
   have O:w.heap.size<wc.heap.size:=by omega
   have ab:w.heap.size+1<wc.heap.size:=by omega
   have aN:¬ w.heap.size=wc.heap.size:=by omega
   have aP:¬ w.heap.size+1=wc.heap.size:=by omega
   have CL:Hid ((wc.alloc (.cells #[.int .i64 1,.string ⟨#[]⟩,.int .i64 0] 310)).drew.cell? ⟨w.heap.size,0,none⟩=some (.slice A NN c)):=(World.cell?_alloc_lt wc _ ⟨w.heap.size,0,none⟩ O).trans U;have FL:Hid ((wc.alloc (.cells #[.int .i64 1,.string ⟨#[]⟩,.int .i64 0] 310)).drew.frozen? ⟨w.heap.size,0,none⟩=false):=((bR.alloc lr _).frozen (p:=⟨w.heap.size,0,none⟩) O).trans fl;have CR:Hid ((wc.alloc (.cells #[.int .i64 1,.string ⟨#[]⟩,.int .i64 0] 310)).drew.cell? ⟨w.heap.size+1,0,none⟩=some (.string z)):=(World.cell?_alloc_lt wc _ ⟨w.heap.size+1,0,none⟩ ab).trans cr
   go_region_law
    ((refine iF _ (by rfl) _ _ _ (by rfl) (w.heap.size+2) 310 i0 _ 3 32 underlying256 an aj X am rfl (by omega) (.slice A NN c) NN _ (by rfl) ((HO.alloc _).drew)
       (wc.heap.size+1) (some ⟨wc.heap.size,0,none⟩) 1 1 [.int .i64 1,.string ⟨#[]⟩,.int .i64 0] (by rfl) (oH wc _ _ _ _) (by simp[Value.oneCell']) (by unfold maxLen;omega) (by omega) (by simp;omega) ?_
      intro v1 w2 o2 g2 a2;obtain⟨A1,c1,rfl⟩:=gg o2;have ak:w2.cell? ⟨w.heap.size,0,none⟩=some (.slice A NN c):=g2.cell CL NL.out;have aR:w2.frozen? ⟨w.heap.size,0,none⟩=false:=(World.frozen?_of_block (a:=⟨w.heap.size,0,none⟩) (g2.block w.heap.size (by simp;omega) NL)).trans FL.out;have aL:w2.cell? ⟨w.heap.size+1,0,none⟩=some (.string z):=g2.cell CR NR))
   all_goals
    go_wp2_with fail;refine bodyPost_ret (v:=.tuple #[.slice A1 (NN+1) c1,.string (s.extract 0 (s.size-z.size)),.string ⟨#[]⟩,.bool false]) (by simp[results,results163,go_sem,ak]) rfl ?_;exact sM E0 HE al aa K.bel ai HO g2 o2
  ·have aH:=fH hnb;clear hnb aG;go_wp2_with fail;refine mb (gO Z true _ (by omega) aH) ?_;rintro w' rfl;have aF:Hid (Gv w (wc.setCell ⟨w.heap.size+1,0,none⟩ (.string Z)) M Z):=K.setRest Z;go_wp2_with fail;refine mb (ph w 2 Z.size M Z _ lr bd (by omega) aF) ?_;rintro w5 aI;obtain⟨r5,aO⟩:∃ r5,r5=Z.extract Z.size Z.size:=⟨_,rfl⟩
   rw[<-aO] at aI;have aJ:r5.size=0:=by rw[aO,iP];omega
   obtain⟨au,ao⟩:∃ au,au=M++[(⟨2,(bl Z).take Z.size,0⟩:Pc)]:=⟨_,rfl⟩
   rw[<-ao] at aI;have HE:Hid (tF (bl s) M (bl z)=J7 (bl s) au ((bl s).length-z.size) r5 Z):=by
    show _=_;rw[ao,JP];exact Xj (bl s) M z Z HC aH r5 aJ
   have aq:Hid (au.length<=200):=by show _<=_;rw[ao];simp;omega
   have aC:=fH aI;have he:r5.toList=[]:=by rw[fK,hZ r5 aJ]
   have ac:r5.toList.isEmpty=true:=by rw[he];rfl
   have al:Hid (decide (r5.size=0)=true):=dT aJ;clear aI aO aJ ao fr c6;go_upto_region 33 with(fail)
   obtain⟨i0,an,aj,X,am⟩:=info_parts qv;obtain⟨A,c,U,I⟩:=aC.lcell;have HO:=fH I;have fl:=aC.lfree;have cr:=aC.rcell;have ai:=aC.sz;have aQ:(au).length<=200:=aq.out;generalize aa:(au).length=NN at *;clear I;have NL:Hid (some w.heap.size≠(Value.slice A NN c).ownBlock):=by intro he;have:=(HO.lt _ he.symm).1;omega
   have NR:Hid (some (w.heap.size+1)≠(Value.slice A NN c).ownBlock):=by intro he;have:=(HO.lt _ he.symm).1;omega
   have O:w.heap.size<w5.heap.size:=by omega
   have ab:w.heap.size+1<w5.heap.size:=by omega
   have aN:¬ w.heap.size=w5.heap.size:=by omega
   have aP:¬ w.heap.size+1=w5.heap.size:=by omega
   have CL:Hid ((w5.alloc (.cells #[.int .i64 1,.string ⟨#[]⟩,.int .i64 0] 310)).drew.cell? ⟨w.heap.size,0,none⟩=some (.slice A NN c)):=(World.cell?_alloc_lt w5 _ ⟨w.heap.size,0,none⟩ O).trans U;have FL:Hid ((w5.alloc (.cells #[.int .i64 1,.string ⟨#[]⟩,.int .i64 0] 310)).drew.frozen? ⟨w.heap.size,0,none⟩=false):=((bR.alloc lr _).frozen (p:=⟨w.heap.size,0,none⟩) O).trans fl;have CR:Hid ((w5.alloc (.cells #[.int .i64 1,.string ⟨#[]⟩,.int .i64 0] 310)).drew.cell? ⟨w.heap.size+1,0,none⟩=some (.string r5)):=(World.cell?_alloc_lt w5 _ ⟨w.heap.size+1,0,none⟩ ab).trans cr
   go_region_law
    ((refine iF _ (by rfl) _ _ _ (by rfl) (w.heap.size+2) 310 i0 _ 3 32 underlying256 an aj X am rfl (by omega) (.slice A NN c) NN _ (by rfl) ((HO.alloc _).drew)
       (w5.heap.size+1) (some ⟨w5.heap.size,0,none⟩) 1 1 [.int .i64 1,.string ⟨#[]⟩,.int .i64 0] (by rfl) (oH w5 _ _ _ _) (by simp[Value.oneCell']) (by unfold maxLen;omega) (by omega) (by simp;omega) ?_
      intro v1 w2 o2 g2 a2;obtain⟨A1,c1,rfl⟩:=gg o2;have ak:w2.cell? ⟨w.heap.size,0,none⟩=some (.slice A NN c):=g2.cell CL NL.out;have aR:w2.frozen? ⟨w.heap.size,0,none⟩=false:=(World.frozen?_of_block (a:=⟨w.heap.size,0,none⟩) (g2.block w.heap.size (by simp;omega) NL)).trans FL.out;have aL:w2.cell? ⟨w.heap.size+1,0,none⟩=some (.string r5):=g2.cell CR NR))
   all_goals
    go_wp2_with fail;refine bodyPost_ret (v:=.tuple #[.slice A1 (NN+1) c1,.string (s.extract 0 (s.size-z.size)),.string Z,.bool true]) (by simp[results,results163,go_sem,ak]) rfl ?_;exact sM E0 HE al aa aC.bel ai HO g2 o2
def oI (l:LU):Option (LU×LU×LU):=(rz l).map fun x=>([],x.2.1,x.2.2)
def la (fmt:Int)(l:LU):Option (LU×LU×LU):=if fmt=1 then mg l else if fmt=2 then mi l else oI l
theorem xx (s:BA)(w:World)(J:Gl w)(I:s.size<=64):Calls prog 108 #[.int .i64 3,.string s] w (xd (oI (bl s)) w):=by
 have H:=fH J;go_in;go_wp2_with fail;refine(qw s _ H I).mono ?_;rintro e M ⟨z,D⟩;cases ha:rz (bl s) with
 | none=>
  rw[ha] at D;obtain⟨A,n,c,p,q,rfl⟩:=D;have F:Hid (oI (bl s)=none):=by show _=_;unfold oI;rw[ha];rfl
  go_wp2_with fail;refine bodyPost_ret (gw rfl _ _ _) rfl ?_;exact⟨⟨#[]⟩,⟨#[]⟩,⟨#[]⟩,3,rfl,by rw[F.out];exact⟨rfl,rfl,rfl,rfl⟩,z⟩
 | some x=>
  obtain⟨K,p,q⟩:=x;rw[ha] at D;obtain⟨A,c,rfl,_⟩:=D;have F:Hid (oI (bl s)=some ([],p,q)):=by show _=_;unfold oI;rw[ha];rfl
  go_wp2_with fail;refine bodyPost_ret (gw rfl _ _ _) rfl ?_;exact⟨⟨#[]⟩,⟨p.toArray⟩,⟨q.toArray⟩,0,rfl,by rw[F.out];exact⟨rfl,rfl,nj p,nj q⟩,z⟩
theorem ra (fmt:Int)(F:fmt=1\/fmt=2\/fmt=3)(s:BA)(w:World)(D:Gl w)(z:s.size<=64):Calls prog 108 #[.int .i64 fmt,.string s] w (xd (la fmt (bl s)) w):=by
 rcases F with rfl | rfl | rfl
 ·exact vY s w D z
 ·exact xm s w D z
 ·exact xx s w D z
def gL (fmt:Int)(s:BA):Int:=if ¬ (fmt=1\/fmt=2\/fmt=3) then 9 else if 64<s.size then 4 else Cf (la fmt (bl s))
theorem rb (fmt:Int)(s:BA)(w:World)(J:s.size<=9223372036854775807)(h:¬ (fmt=1\/fmt=2\/fmt=3)\/64<s.size):Calls prog 108 #[.int .i64 fmt,.string s] w fun e w'=>e=.returned (.tuple #[.string ⟨#[]⟩,.string ⟨#[]⟩,.string ⟨#[]⟩,.int .i64 (gL fmt s)])/\w=w':=by
 by_cases z:fmt=1\/fmt=2\/fmt=3
 ·have D:64<s.size:=h.resolve_left (fun F=>F z);have E:Hid (gL fmt s=4):=by show _=_;unfold gL;rw[if_neg (fun F=>F z),if_pos D]
  rcases z with rfl | rfl | rfl
  all_goals
   go_in;go_wp2_with fail;refine bodyPost_ret (gw rfl _ _ _) rfl ?_;exact⟨by rw[E.out];rfl,rfl⟩
 ·have E:Hid (gL fmt s=9):=by show _=_;unfold gL;rw[if_pos z]
  have H:(fmt != 1)=true:=by simp[bne];omega
  have K:(fmt != 2)=true:=by simp[bne];omega
  have I:(fmt != 3)=true:=by simp[bne];omega
  go_in;go_wp2_with fail;refine bodyPost_ret (gw rfl _ _ _) rfl ?_;exact⟨by rw[E.out];rfl,rfl⟩
theorem gP (fmt:Int)(s:BA)(w:World)(U:Gl w)(R:s.size<=9223372036854775807):Calls prog 65 #[.int .i64 fmt,.string s] w fun e w'=>e=.returned (.int .i64 (gL fmt s))/\Bw w w':=by
 have M:=fH U;by_cases h:¬ (fmt=1\/fmt=2\/fmt=3)\/64<s.size
 ·have V:=fH h;go_in;go_wp2_with fail;refine(rb fmt s _ R V).mono ?_;rintro e J ⟨rfl,rfl⟩;go_wp2;go_ret;exact⟨rfl,bR⟩
 ·have I:fmt=1\/fmt=2\/fmt=3:=Classical.byContradiction fun D=>h (.inl D);have H:¬ 64<s.size:=fun D=>h (.inr D);have E:Hid (gL fmt s=Cf (la fmt (bl s))):=by show _=_;unfold gL;rw[if_neg (fun D=>D I),if_neg H]
  have K:=fH I;go_in;go_wp2_with fail;refine(ra fmt K s _ M (by omega)).mono ?_;rintro e J ⟨Z,Y,X,c,rfl,z,F⟩;have O:=fH z;go_wp2;go_ret;refine⟨fT ?_,F⟩;rw[E.out];have z:=O.out;cases h:la fmt (bl s) with
  | none=>rw[h] at z;exact z.1
  | some x=>obtain⟨a,b,d⟩:=x;rw[h] at z;exact z.1
def gX (l:LU):BA:=⟨l.toArray⟩
theorem iS (l:LU):bl (gX l)=l:=nj l
theorem nF (s:BA):gX (bl s)=s:=kG (nj _)
theorem iB (l:LU):(gX l).size=l.length:=by rw[<-fI,iS]
theorem Im (h:bl s=l):s=gX l:=by rw[<-h,nF]
structure jP where
 no:Bool
 name:LU
 op:Nat
 ver:LU
def jP.cells (x:jP):LV:=[.bool x.no,.string (gX x.name),.int .i64 x.op,.string (gX x.ver)]
theorem Ci (x:jP):x.cells.length=4:=rfl
def gT (c:UInt8):Bool:=c==32
def kg (c:UInt8):Bool:=c != 32
def GM (c:UInt8):Bool:=c==60||c==61||c==62||c==126
def pG (c:UInt8):Bool:=!GM c
def As:LU->Nat×LU
 | []=>(0,[])
 | a::r=>if a==60 then (if fY 61 r then (2,r.drop 1) else (1,r)) else if a==61 then (3,r) else if a==62 then (if fY 61 r then (4,r.drop 1) else (5,r)) else if a==126 then (6,r) else (0,a::r)
def ji (l:LU):LU:=if fY 33 l then l.drop 1 else l
def In (no:Bool)(name t:LU):Option jP:=
 if t.isEmpty then some ⟨no,name,0,[]⟩ else if gL 3 (gX (As t).2)=0 then some ⟨no,name,(As t).1,(As t).2⟩ else none
def mW (l:LU):Option jP:=
 if jU ((ji l).take (fS pG (ji l))) then In (fY 33 l) ((ji l).take (fS pG (ji l))) ((ji l).drop (fS pG (ji l))) else none
def nU:Nat->Nat->LU->Option (List jP)
 | 0,_,_=>none
 | f+1,n,l=>
  let r:=l.drop (fS gT l)
  if r.isEmpty then some [] else if n=64 then none else
  match mW (r.take (fS kg r)) with
  | none=>none
  | some x=>(nU f (n+1) (r.drop (fS kg r))).map (x :: ·)
def jL (l:LU):Option (List jP):=nU (l.length+1) 0 l
def jP.right (x:jP):Prop:=jU x.name=true/\x.op<=6/\(x.op=0->x.ver=[])/\(0<x.op->gL 3 (gX x.ver)=0)
theorem aca (l:LU):(As l).1<=6:=by
 unfold As;split
 ·simp
 ·repeat' split
  all_goals simp
def Xm:LU->Bool
 | []=>false
 | a::_=>GM a
theorem Z9 (l:LU)(h:Xm l=true):0<(As l).1:=by
 cases l with
 | nil=>simp[Xm] at h
 | cons a r=>
  unfold As;simp only[Xm,GM,Bool.or_eq_true] at h
  repeat' split
  all_goals first | (simp;done) | (rcases h with((h | h) | h) | h<;>simp_all)
theorem Db (l:LU)(h:(l.drop (fS p l)).isEmpty=false):∃ a r,l.drop (fS p l)=a::r/\p a=false:=by
 refine rL l ?_;have D:=jI p l;rcases Nat.lt_or_ge (fS p l) l.length with z | z
 ·exact z
 ·rw[List.drop_eq_nil_of_le z] at h;simp at h
theorem Mg {x:jP}(h:mW l=some x):x.right:=by
 unfold mW at h;split at h
 ·rename_i z;unfold In at h;split at h
  ·injection h with h;subst h;exact⟨z,by simp,by simp,by simp⟩
  ·rename_i F;split at h
   ·rename_i I;injection h with h;subst h;refine⟨z,aca _,fun J=>?_,fun _=>I⟩;exfalso;obtain⟨a,r,D,H⟩:=Db _ (Bool.eq_false_iff.2 F);have:=Z9 _ (show Xm ((ji l).drop (fS pG (ji l)))=true by rw[D];simpa [Xm,pG] using H);simp only at J;omega
   ·cases h
 ·cases h
theorem tP:∀ (f n:Nat)(l:LU)(L:List jP),n<=64->nU f n l=some L->(∀ x∈L,x.right)/\n+L.length<=64
 | 0,n,l,L,_,h=>by simp[nU] at h
 | f+1,n,l,L,hn,h=>by
  unfold nU at h;simp only at h;split at h
  ·injection h with h;subst h;simpa using hn
  ·split at h
   ·cases h
   ·rename_i F;split at h
    ·cases h
    ·rename_i x H;obtain⟨M,D,rfl⟩:=Option.map_eq_some_iff.1 h;obtain⟨a,b⟩:=tP f (n+1) _ M (by omega) D;refine⟨fun y z=>?_,by simp;omega⟩;rcases List.mem_cons.1 z with rfl | z
     ·exact Mg H
     ·exact a y z
theorem oX (h:p a=true):fS p (a::r)=fS p r+1:=by simp[fS,h]
theorem At (f n:Nat)(r:LU):nU f n (32::r)=nU f n r:=by
 cases f with
 | zero=>rfl
 | succ f=>unfold nU;rw[oX (by rfl)];rfl
theorem yU (f n:Nat):nU (f+1) n []=some []:=by simp[nU,fS]
def Mh (f n:Nat)(l:LU):Option (List jP):=
 if n=64 then none else match mW (l.take (fS kg l)) with
  | none=>none
  | some x=>(nU f (n+1) (l.drop (fS kg l))).map (x :: ·)
theorem wh (f n:Nat)(l:LU)(h:kg (l.headD 32)=true):nU (f+1) n l=Mh f n l:=by
 cases l with
 | nil=>simp[kg] at h
 | cons a r=>
  have z:gT a=false:=by simpa [kg,gT] using h
  unfold nU Mh;rw[mO z];simp
theorem Mi (h:kg (l.headD 32)=true):nU (f+1) 64 l=none:=by rw[wh f 64 l h];simp[Mh]
theorem Pv (h:kg (l.headD 32)=true)(z:mW (l.take (fS kg l))=none):nU (f+1) n l=none:=by
 rw[wh f n l h];unfold Mh;rw[z];simp
theorem wi {x:jP}(h:kg (l.headD 32)=true)(D:n≠64)(z:mW (l.take (fS kg l))=some x):nU (f+1) n l=(nU f (n+1) (l.drop (fS kg l))).map (x :: ·):=by
 rw[wh f n l h];unfold Mh;rw[if_neg D,z]
def tQ (f:Nat)(acc:List jP)(l:LU):Option (List jP):=(nU f acc.length l).map (acc++·)
theorem Pw (l:LU):jL l=tQ (l.length+1) [] l:=by unfold jL tQ;simp
theorem Px (f:Nat)(z:List jP)(r:LU):tQ f z (32::r)=tQ f z r:=by unfold tQ;rw[At]
theorem Xn (f:Nat)(z:List jP):tQ (f+1) z []=some z:=by unfold tQ;rw[yU];simp
theorem Uf {acc:List jP}(h:kg (l.headD 32)=true)(z:mW (l.take (fS kg l))=none):tQ (f+1) acc l=none:=by unfold tQ;rw[Pv h z];rfl
theorem Py {acc:List jP}(h:kg (l.headD 32)=true)(z:acc.length=64):tQ (f+1) acc l=none:=by unfold tQ;rw[z,Mi h];rfl
theorem Ug {acc:List jP}{x:jP}(h:kg (l.headD 32)=true)(D:acc.length≠64)(z:mW (l.take (fS kg l))=some x):tQ (f+1) acc l=tQ f (acc++[x]) (l.drop (fS kg l)):=by
 unfold tQ;rw[wi h D z];simp[Function.comp_def]
def nN:Nat->LU
 | 1=>[60]
 | 2=>[60,61]
 | 3=>[61]
 | 4=>[62,61]
 | 5=>[62]
 | 6=>[126]
 | _=>[]
def jP.text (x:jP):LU:=(if x.no then [33] else [])++(x.name++nN x.op++x.ver)
def ko (L:List jP):LU:=Lib.join (L.map jP.text) [32]
def nV (l:LU):Bool:=!l.isEmpty&&(match jL l with | some L=>decide (ko L=l) | none=>false)
def jy (l:LU):Nat->Nat×LU
 | 0=>(0,l)
 | i+1=>if Lib.hasPrefix l (nN i)&&decide ((Lib.trimPrefix l (nN i)).length<(jy l i).2.length) then (i,Lib.trimPrefix l (nN i)) else jy l i
theorem sN (l:LU)(i:Nat):jy l (i+1)=if Lib.hasPrefix l (nN i)&&decide ((Lib.trimPrefix l (nN i)).length<(jy l i).2.length) then (i,Lib.trimPrefix l (nN i)) else jy l i:=rfl
theorem jm (h:Lib.hasPrefix l (nN i)=false):jy l (i+1)=jy l i:=by rw[sN,h];rfl
theorem rM {b:LU}(D:jy l i=(n,b))(h:Lib.hasPrefix l (nN i)=true)(ht:l.drop (nN i).length=r)(z:r.length<b.length):jy l (i+1)=(i,r):=by
 have:Lib.trimPrefix l (nN i)=r:=by unfold Lib.trimPrefix;rw[if_pos h,ht]
 rw[sN,h,this,D];simp[z]
theorem Io (l:LU):jy l 1=(0,l):=by
 rw[sN];have:Lib.trimPrefix l (nN 0)=l:=by unfold Lib.trimPrefix;simp[nN]
 rw[this];simp[jy]
theorem tR (c a:UInt8)(r:LU):Lib.hasPrefix (a::r) [c]=(c==a):=by unfold Lib.hasPrefix;simp only[List.isPrefixOf,Bool.and_true]
theorem Mj (c d a:UInt8)(r:LU):Lib.hasPrefix (a::r) [c,d]=(c==a&&fY d r):=by
 cases r with
 | nil=>unfold Lib.hasPrefix;simp only[List.isPrefixOf,fY]
 | cons b r=>unfold Lib.hasPrefix;simp only[List.isPrefixOf,fY,Bool.and_true];rw[Bool.beq_comm (a:=d)]
theorem aaa (h:a≠c):(c==a)=false:=by simpa using fun e=>h e.symm
theorem Ip (l:LU):jy l 7=As l:=by
 cases l with
 | nil=>rfl
 | cons a r=>
  by_cases J:a=60
  ·subst J;have O:jy (60::r) 2=(1,r):=rM (Io _) (by rw[show nN 1=[60] from rfl,tR];rfl) rfl (by simp);have F:jy (60::r) 3=if fY 61 r then (2,r.drop 1) else (1,r):=by
    cases hb:fY 61 r with
    | false=>exact(jm (by rw[show nN 2=[60,61] from rfl,Mj,hb];rfl)).trans O
    | true=>
     refine rM O (by rw[show nN 2=[60,61] from rfl,Mj,hb];rfl) rfl ?_;rw[Il hb];simp
   rw[jm (i:=6) (by rw[show nN 6=[126] from rfl,tR];rfl),jm (i:=5) (by rw[show nN 5=[62] from rfl,tR];rfl),jm (i:=4) (by rw[show nN 4=[62,61] from rfl,Mj];rfl),jm (i:=3) (by rw[show nN 3=[61] from rfl,tR];rfl),F];simp[As]
  have U:=aaa J;have F:jy (a::r) 3=(0,a::r):=by
   rw[jm (i:=2) (by rw[show nN 2=[60,61] from rfl,Mj,U];rfl),jm (i:=1) (by rw[show nN 1=[60] from rfl,tR,U]),Io]
  by_cases I:a=61
  ·subst I;have D:jy (61::r) 4=(3,r):=rM F (by rw[show nN 3=[61] from rfl,tR];rfl) rfl (by simp);rw[jm (i:=6) (by rw[show nN 6=[126] from rfl,tR];rfl),jm (i:=5) (by rw[show nN 5=[62] from rfl,tR];rfl),jm (i:=4) (by rw[show nN 4=[62,61] from rfl,Mj];rfl),D];simp[As]
  have V:=aaa I;have D:jy (a::r) 4=(0,a::r):=by rw[jm (i:=3) (by rw[show nN 3=[61] from rfl,tR,V]),F]
  by_cases H:a=62
  ·subst H;cases hb:fY 61 r with
   | false=>
    have M:jy (62::r) 5=(0,62::r):=(jm (by rw[show nN 4=[62,61] from rfl,Mj,hb];rfl)).trans D;have z:jy (62::r) 6=(5,r):=rM M (by rw[show nN 5=[62] from rfl,tR];rfl) rfl (by simp);rw[jm (i:=6) (by rw[show nN 6=[126] from rfl,tR];rfl),z];simp[As,hb]
   | true=>
    have M:jy (62::r) 5=(4,r.drop 1):=rM D (by rw[show nN 4=[62,61] from rfl,Mj,hb];rfl) rfl (by simp;omega);have z:jy (62::r) 6=(4,r.drop 1):=by
     rw[sN,M];have:Lib.trimPrefix (62::r) (nN 5)=r:=by unfold Lib.trimPrefix;rw[if_pos (by rw[show nN 5=[62] from rfl,tR];rfl)];rfl
     rw[this,if_neg (by simp)]
    rw[jm (i:=6) (by rw[show nN 6=[126] from rfl,tR];rfl),z];simp[As,hb]
  have R:=aaa H;have z:jy (a::r) 6=(0,a::r):=by rw[jm (i:=5) (by rw[show nN 5=[62] from rfl,tR,R]),jm (i:=4) (by rw[show nN 4=[62,61] from rfl,Mj,R];rfl),D]
  by_cases K:a=126
  ·subst K;rw[rM (r:=r) z (by rw[show nN 6=[126] from rfl,tR];rfl) rfl (by simp)];simp[As]
  ·rw[jm (i:=6) (by rw[show nN 6=[126] from rfl,tR,aaa K]),z];simp[As,J,I,H,K]
def xO (fmt:Int)(l:LU):Bool:=if fmt=1 then hH l else if fmt=2 then kA l else jU l
theorem BK (fmt:Int)(s:BA)(w:World)(F:s.size<=9223372036854775807):Calls prog 112 #[.int .i64 fmt,.string s] w fun e w'=>e=.returned (.bool (xO fmt (bl s)))/\w=w':=by
 by_cases z:fmt=1
 ·subst z;have E:Hid (xO 1 (bl s)=hH (bl s)):=rfl;go_in;go_wp2_with fail;refine mb (nC s _ F) ?_;rintro w' rfl;go_wp2;go_ret;exact⟨fJ E.out.symm,rfl⟩
 have H:(fmt==1)=false:=by simpa using z
 by_cases D:fmt=2
 ·subst D;have E:Hid (xO 2 (bl s)=kA (bl s)):=rfl;clear z H;go_in;go_wp2_with fail;refine mb (uO s _ F) ?_;rintro w' rfl;go_wp2;go_ret;exact⟨fJ E.out.symm,rfl⟩
 have I:(fmt==2)=false:=by simpa using D
 have E:Hid (xO fmt (bl s)=jU (bl s)):=by show _=_;unfold xO;rw[if_neg z,if_neg D]
 clear z D;go_in;go_wp2_with fail;refine mb (yQ s _ F) ?_;rintro w' rfl;go_wp2;go_ret;exact⟨fJ E.out.symm,rfl⟩
def rY (fmt:Int)(x:fP):Bool:=xO fmt (bl x.nm)&&(if x.op=0 then decide (x.ver.size=0) else decide (x.op=3)&&decide (gL fmt x.ver=0))
def nh (fmt:Int)(l:List fP):Bool:=decide (l.length<=32)&&l.all (rY fmt)
theorem Na {l:List fP}(h:32<l.length):nh fmt l=false:=by
 unfold nh;rw[dF];rfl
theorem Vb {l:List fP}{x:fP}(h:x∈l)(z:rY fmt x=false):nh fmt l=false:=by
 unfold nh;have:l.all (rY fmt)=false:=by rw[List.all_eq_false];exact⟨x,h,by rw[z];simp⟩
 rw[this];simp
theorem Qt {l:List fP}(h:¬ 32<l.length)(F:∀ (j:Nat) x,l[j]?=some x->rY fmt x=true):nh fmt l=true:=by
 unfold nh;have:l.all (rY fmt)=true:=by rw[List.all_eq_true];intro x D;obtain⟨j,z⟩:=List.getElem?_of_mem D;exact F j x z
 rw[this,dT];rfl
theorem zi (fmt:Int)(A:OA)(c:Nat)(l:List fP)(w:World)(hG:Gl w)(hr:Rd w 3 A l.length (l.flatMap fP.cells))(hn:l.length<=9223372036854775807)(hf:∀ x∈l,x.nm.size<=4294967280/\x.ver.size<=4294967280):Calls prog 70 #[.int .i64 fmt,.slice A l.length c] w fun e w'=>e=.returned (.bool (nh fmt l))/\Bw w w':=by
 have HG:=fH hG;have HR:=fH hr;have HF:=fH hf;clear hG hr hf;by_cases X:32<l.length
 ·have E:=fH (Na (fmt:=fmt) X);go_in;go_wp2;go_ret;exact⟨fJ E.out.symm,bR⟩
 go_in;go_wp2;go_loopw [12] (fun i wr=>∃ k:Nat,k<=l.length/\i=.int .i64 k/\Hid (Bw w wr)/\Hid (∀ (j:Nat) x,j<k->l[j]?=some x->rY fmt x=true)) (fun i _=>l.length-(intOf i).toNat)
 case atStart=>exact⟨0,z0,rfl,bR,fun j x h=>absurd h (Nat.not_lt_zero _)⟩
 case round=>
  obtain⟨k,hk,rfl,HB,HA⟩:=hrel;by_cases R:k<l.length
  ·obtain⟨x,Z⟩:∃ x,l[k]?=some x:=⟨_,gG R⟩
   obtain⟨b,off,hA,he⟩:=(HR.below HB).elem kt k x Z;obtain⟨e0,e1,e2⟩:=qj he;simp only[Nat.add_zero] at e0;have aa:=fun W=>gi (T:=34) (E:=78) (sz:=3) (c:=c) underlying34 rfl sizeOf78 hA R W;obtain⟨z1,z2⟩:=HF.out x (gM Z);have I:=fH (fun h=>Vb (fmt:=fmt) (gM Z) h);have J:Hid (rY fmt x=true->∀ (j:Nat) y,j<k+1->l[j]?=some y->rY fmt y=true):=by
    intro h j y hj Y;by_cases e:j=k
    ·subst e;rw[Z] at Y;injection Y with Y;rw[<-Y];exact h
    ·exact HA.out j y (by omega) Y
   clear Z he hA;have O:=fun W=>BK fmt x.nm W (by omega);have M:Hid (Bw w (wr.alloc (.cells #[.string x.nm,.int .i64 x.op,.string x.ver] 78))):=HB.alloc HB.size _;cases hnm:xO fmt (bl x.nm) with
   | false=>
    have E:=fH (I (by unfold rY;rw[hnm];rfl));rw[hnm] at O;clear hnm;go_wp2_with fail;refine mb (O _) ?_;rintro w' rfl;go_wp2;go_ret;exact⟨fJ E.out.symm,M⟩
   | true=>
    rw[hnm] at O;have U:Hid (rY fmt x=if x.op=0 then decide (x.ver.size=0) else decide (x.op=3)&&decide (gL fmt x.ver=0)):=by show _=_;unfold rY;rw[hnm];rfl
    clear hnm;by_cases D:x.op=0
    ·have q0:(x.op==0)=true:=by simpa using D
     by_cases z:x.ver.size=0
     ·have V:x.ver.toList=[]:=by rw[fK,hZ _ z]
      have F:x.ver.toList.isEmpty=true:=by rw[V];rfl
      have G:=fH (J (by rw[U.out,if_pos D,dT z]));clear D z;go_wp2_with fail;refine mb (O _) ?_;rintro w' rfl;go_wp2;go_roundw
      case rel=>exact⟨k+1,by omega,by go_num,M,G⟩
      case measure=>simp[intOf];omega
     ·have F:x.ver.toList.isEmpty=false:=by rw[fK,gu];exact dF z
      have V:¬ x.ver.toList=[]:=by intro h;rw[h] at F;simp at F
      have E:=fH (I (by rw[U.out,if_pos D,dF z]));clear D z;go_wp2_with fail;refine mb (O _) ?_;rintro w' rfl;go_wp2;go_ret;exact⟨fJ E.out.symm,M⟩
    have q0:(x.op==0)=false:=by simpa using D
    by_cases K:x.op=3
    ·have q3:(x.op==3)=true:=by simpa using K
     by_cases z:gL fmt x.ver=0
     ·have F:(gL fmt x.ver != 0)=false:=by simp[z]
      have G:=fH (J (by rw[U.out,if_neg D,dT K,dT z];rfl));clear D K z;go_wp2_with fail;refine mb (O _) ?_;rintro w' rfl;go_wp2_with fail;refine mb (gP fmt x.ver _ (HG.below M) (by omega)) ?_;rintro w1 H;have B2:Hid (Bw w w1):=fM M H;clear H;go_wp2;go_roundw
      case rel=>exact⟨k+1,by omega,by go_num,B2,G⟩
      case measure=>simp[intOf];omega
     ·have F:(gL fmt x.ver != 0)=true:=by simp[z]
      have E:=fH (I (by rw[U.out,if_neg D,dT K,dF z];rfl));clear D K z;go_wp2_with fail;refine mb (O _) ?_;rintro w' rfl;go_wp2_with fail;refine mb (gP fmt x.ver _ (HG.below M) (by omega)) ?_;rintro w1 H;have B2:Hid (Bw w w1):=fM M H;clear H;go_wp2;go_ret;exact⟨fJ E.out.symm,B2⟩
    ·have q3:(x.op==3)=false:=by simpa using K
     have E:=fH (I (by rw[U.out,if_neg D,dF K];rfl));clear D K;go_wp2_with fail;refine mb (O _) ?_;rintro w' rfl;go_wp2;go_ret;exact⟨fJ E.out.symm,M⟩
  ·have E:=fH (Qt (fmt:=fmt) X (fun j x hj=>HA.out j x (by have:=(gS hj).1;omega) hj));go_wp2;go_ret;exact⟨fJ E.out.symm,HB⟩
end
end Go.Proofs.YtkmjcombhjombaaGreatDoor
