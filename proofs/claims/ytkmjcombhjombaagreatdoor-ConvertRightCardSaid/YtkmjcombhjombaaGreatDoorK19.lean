/- A part of the proof. -/
import Derived.Test.YtkmjcombhjombaaGreatDoorK17
import Derived.Test.YtkmjcombhjombaaGreatDoorK18
set_option maxRecDepth 100000
set_option maxHeartbeats 20000000
set_option linter.unusedVariables false
set_option linter.unusedSimpArgs false
namespace Go.Proofs.YtkmjcombhjombaaGreatDoor
variable{s x:BA}{a b fmt:Int}{R l r:LU}{ts:List (LU)}{B1 c c1 cc g i j k m n:Nat}{A G G1:Option Addr}{W0 w w' w1 w6 wr:World}
section
open Go.RowKit Go.Deep
theorem aaZ (s p:BA)(w:World):Calls Tryz.prog 271 #[.string s,.string p] w fun e w'=>e=.returned (.string (ke (Lib.trimPrefix (bl s) (bl p))))/\w=w':=
 (Tryz.strings_TrimPrefix s p w).mono fun _ _ ⟨y,z⟩=>⟨y,z.symm⟩
structure kX.okT (t:kX):Prop where
 nm:jZ (bl t.nm)=true
 qual:t.qual.size=0\/mH (bl t.qual)=true
 archs:∀ x∈t.archs,mH (kY (bl x))=true
 op:t.op<=5
 ver0:t.op=0->t.ver.size=0
 ver:0<t.op->kf 1 t.ver=0
 nmz:t.nm.size<=64
 qualz:t.qual.size<=32
 verz:t.ver.size<=64
 archz:∀ x∈t.archs,x.size<=33
 few:t.archs.length<=1000000
theorem kX.okT_of {t:kX}(h:t.pl.good):t.okT:=by
 have p:=h.parts;have z:=h.sizes;refine⟨p.nm,?_,fun x D=>p.archs (bl x) (List.mem_map.2 ⟨x,D,rfl⟩),h.op,fun y=>?_,fun y=>?_,?_,?_,?_,fun x D=>?_,?_⟩
 ·rcases p.qual with y | y
  ·left;rw[<-iX];exact List.length_eq_zero_iff.2 y
  ·exact .inr y
 ·rw[<-iX];exact List.length_eq_zero_iff.2 (h.ver y)
 ·have:=p.ver y;rwa [show ke t.pl.ver=t.ver from oQ _] at this
 ·rw[<-iX];exact z.nm
 ·rw[<-iX];exact z.qual
 ·rw[<-iX];exact z.ver
 ·rw[<-iX];exact z.archs (bl x) (List.mem_map.2 ⟨x,D,rfl⟩)
 ·have:=h.few;simpa [kX.pl] using this
theorem OF (t:kX)(h:t.okT)(w:World)(hG:Gl w)(hr:Rd w 1 t.aa t.archs.length (strCells t.archs)):Calls Tryz.prog 237 #[t.val] w fun e w'=>e=.returned (.int .i64 0)/\Below w.heap.size w w':=by
 unfold kX.val;obtain⟨h1,h2,h3,h4,h5,h6,h7,h8,h9,N,ab⟩:=h;have HG:=iV hG;have HR:=iV hr;have O:=fun W=>pE t.nm W (by omega);rw[h1] at O;have HA:=iV h3;have HZ:=iV N;have H5:=iV h5;have H6:=iV h6;clear hG hr h1 h3 N h5 h6;obtain⟨nm,op,ver,y,aa,Y,archs⟩:=t;simp only at *;obtain⟨K,D⟩:∃ K,w.alloc (.cells #[.string nm,.int .i64 op,.string ver,.string y,.slice aa archs.length Y] 196)=K:=⟨_,rfl⟩
 have K1:Hid (jh K w.heap.size [.string nm,.int .i64 op,.string ver,.string y,.slice aa archs.length Y]):=by rw[<-D];exact jh.new w _ _
 have R:Hid (Below w.heap.size w K):=by rw[<-D];exact bR.alloc lr _
 obtain⟨c0,c1,c2,c3,c4,f0,f1,f2,f3,f4⟩:=K1.out.five;clear f0 f1 f2 f3 f4;go_in;go_upto_region 1 with(fail)
 clear D;go_cut [20] (fun v wx=>v=.bool false/\K=wx)
 case first=>
  by_cases X:y.size=0
  ·have I:y.toList=[]:=by rw[iY,kw y X]
   have z:y.toList.isEmpty=true:=by rw[I];rfl
   go_wp2_with fail;refine(O _).mono ?_;rintro e w' ⟨rfl,rfl⟩;go_wp2;go_meet;exact⟨rfl,rfl⟩
  ·have z:y.toList.isEmpty=false:=by rw[iY,jB];exact dF X
   have I:¬ y.toList=[]:=by intro h;rw[h] at z;simp at z
   have F:=fun W=>zp y W (by omega);rw[h2.resolve_left X] at F;go_wp2_with fail;refine(O _).mono ?_;rintro e w' ⟨rfl,rfl⟩;go_wp2_with fail;refine(F _).mono ?_;rintro e w' ⟨rfl,rfl⟩;go_wp2;go_meet;exact⟨rfl,rfl⟩
 case rest=>
 obtain⟨rfl,rfl⟩:=hcut;clear h2 O;go_wp2;go_loop [24] (fun i=>∃ k:Nat,k<=archs.length/\i=.int .i64 k) (fun i=>archs.length-(intOf i).toNat)
 case atStart=>exact⟨0,z0,rfl⟩
 case round=>
  obtain⟨k,hk,rfl⟩:=hrel;by_cases J:k<archs.length
  ·obtain⟨x,U⟩:∃ x,archs[k]?=some x:=⟨_,gG J⟩
   obtain⟨b,off,hA,I⟩:=(HR.out.below R.out).str k x U;have Z:=fun W=>jm (T:=33) (E:=9) (sz:=1) (c:=Y) Tryz.underlying33 rfl Tryz.sizeOf9 hA J W;simp only[Nat.mul_one] at Z;have hT:=fun W=>aaZ x ⟨#[33]⟩ W;rw[show bl ⟨#[33]⟩=[33] from rfl,Hl] at hT;have ad:=HZ.out x (gM U);have F:=fun W=>zp (ke (kY (bl x))) W (by rw[kL];have:=Hw (bl x);rw[iX] at this;omega);rw[lS,HA.out x (gM U)] at F;clear U hA;go_wp2_with fail;refine(hT _).mono ?_;rintro e w' ⟨rfl,rfl⟩;go_wp2_with fail;refine(F _).mono ?_;rintro e w' ⟨rfl,rfl⟩;go_wp2;go_round
   case rel=>exact⟨k+1,by omega,by go_num⟩
   case measure=>simp[intOf];omega
  ·by_cases V:op=0
   ·have H:=H5.out V;have I:ver.toList=[]:=by rw[iY,kw ver H]
    have z:ver.toList.isEmpty=true:=by rw[I];rfl
    subst V;clear H;go_wp2;go_ret;exact⟨rfl,R.out⟩
   ·have H:=H6.out (by omega);have o1:decide ((op:Int)<0)=false:=dF (by omega);have o2:decide ((5:Int)<(op:Int))=false:=dF (by omega);have o3:((op:Int)==0)=false:=by simp;omega
    have hC:=fun W F=>jT 1 ver W F (by omega);rw[H] at hC;clear H V;go_wp2_with fail;refine(hC _ (HG.out.below R.out)).mono ?_;rintro e w1 ⟨rfl,M⟩;have B2:Hid (Below w.heap.size w w1):=jc R.out M;clear M;go_wp2;go_ret;exact⟨rfl,B2.out⟩
theorem Du {gs:List jE}{g:jE}(h:gs[k]?=some g):(gs.map jE.sl)[k]?=some (.slice g.ga g.ts.length g.gc):=by rw[List.getElem?_map,h];rfl
theorem Rd.one {xs:List Value}(h:Rd w 1 A n xs)(i:Nat)(v:Value)(hi:xs[i]?=some v)(hn:i<n):
  ∃ b off,A=some ⟨b,off,none⟩/\w.cell? ⟨b,off+i,none⟩=some v:=by
 obtain⟨b,off,e,y⟩:=h.2 (by omega);exact⟨b,off,e,y i _ hi⟩
def Dv (l:List jE):Nat:=(l.map fun g=>g.ts.length).sum
theorem Hy (l:List jE)(k:Nat)(g:jE)(h:l[k]?=some g):Dv (l.take (k+1))=Dv (l.take k)+g.ts.length:=by
 obtain⟨y,z⟩:=gS h;unfold Dv;rw[tS y,z];simp
theorem Yz (l:List jE)(k:Nat):Dv (l.take k)<=Dv l:=by
 conv=>rhs;rw[<-List.take_append_drop k l]
 unfold Dv;rw[List.map_append,List.sum_append];omega
structure yk (gs:List jE):Prop where
 few:gs.length<=64
 sum:Dv gs<=64
 ne:∀ g∈gs,0<g.ts.length
 len:∀ g∈gs,g.ts.length<=64
 ok:∀ g∈gs,∀ t∈g.ts,t.okT
theorem yk.of {gs:List jE}(h:rx (gs.map jE.pl)):yk gs:=by
 have e:((gs.map jE.pl).map List.length).sum=Dv gs:=by unfold Dv;rw[List.map_map];congr 1;apply List.map_congr_left;intro g _;simp[jE.pl]
 have D:=h.sum;rw[e] at D;refine⟨by have:=h.few;simpa using this,D,fun g y=>?_,fun g y=>?_,fun g y t ht=>?_⟩
 ·have:=h.ne g.pl (List.mem_map.2 ⟨g,y,rfl⟩);rcases Nat.eq_zero_or_pos g.ts.length with z | z
  ·exact absurd (by unfold jE.pl;rw[List.length_eq_zero_iff.1 z];rfl) this
  ·exact z
 ·have:=aah (L:=gs.map jE.pl) (g:=g.pl) (List.mem_map.2 ⟨g,y,rfl⟩);rw[e] at this;unfold jE.pl at this;rw[List.length_map] at this;omega
 ·exact kX.okT_of (h.good g.pl (List.mem_map.2 ⟨g,y,rfl⟩) t.pl (List.mem_map.2 ⟨t,ht,rfl⟩))
theorem OG (A:Option Addr)(c:Nat)(gs:List jE)(hW:yk gs)(w:World)(hG:Gl w)(hr:uG w A gs):Calls Tryz.prog 191 #[.slice A gs.length c] w fun e w'=>e=.returned (.int .i64 0)/\Below w.heap.size w w':=by
 have HG:=iV hG;have R:=iV hr;have O:=iV hW;have ak:=hW.few;clear hG hr hW;go_in;go_wp2;go_loop [3,15] (fun n i=>∃ k m:Nat,k<=gs.length/\m<=64/\n=.int .i64 m/\i=.int .i64 k/\Hid (m=Dv (gs.take k))) (fun _ i=>gs.length-(intOf i).toNat)
 case atStart=>exact⟨0,0,z0,by omega,rfl,rfl,rfl⟩
 case round=>
  obtain⟨k,m,hk,hm,rfl,rfl,HM⟩:=hrel;by_cases M:k<gs.length
  ·obtain⟨g,y⟩:∃ g,gs[k]?=some g:=⟨_,gG M⟩
   obtain⟨b,off,K,he⟩:=R.out.row.one k _ (Du y) M;have D:=fun W=>jm (T:=83) (E:=198) (sz:=1) (c:=c) Tryz.underlying83 rfl Tryz.sizeOf198 K M W;simp only[Nat.mul_one] at D;have N:=O.out.len g (gM y);have ai:m+g.ts.length<=64:=by have h1:=HM.out;have h2:=Hy gs k g y;have h3:=Yz gs (k+1);have h4:=O.out.sum;omega
   have ad:Hid (m+g.ts.length=Dv (gs.take (k+1))):=by have h1:=HM.out;have h2:=Hy gs k g y;show _=_;omega
   clear y K;generalize g.ts.length=gl at *;go_wp2;go_round
   case rel=>exact⟨k+1,m+gl,by omega,ai,by go_num,by go_num,ad⟩
   case measure=>simp[intOf];omega
  ·have ao:decide ((64:Int)<(m:Int))=false:=dF (by omega);clear HM;go_wp2;go_loop [2,28] (fun Y i=>∃ k:Nat,k<=gs.length/\Y=.int .i64 0/\i=.int .i64 k) (fun _ i=>gs.length-(intOf i).toNat)
   case atStart=>exact⟨0,z0,rfl,rfl⟩
   case round=>
    obtain⟨j,hj,rfl,rfl⟩:=hrel;by_cases F:j<gs.length
    ·obtain⟨g,y⟩:∃ g,gs[j]?=some g:=⟨_,gG F⟩
     obtain⟨b,off,K,he⟩:=R.out.row.one j _ (Du y) F;have D:=fun W=>jm (T:=83) (E:=198) (sz:=1) (c:=c) Tryz.underlying83 rfl Tryz.sizeOf198 K F W;simp only[Nat.mul_one] at D;have N:=O.out.len g (gM y);have am:=O.out.ne g (gM y);clear y K;generalize g.ts.length=gl at *;have an:((gl:Int)==0)=false:=by simp;omega
     go_wp2;go_round
     case rel=>exact⟨j+1,by omega,rfl,by go_num⟩
     case measure=>simp[intOf];omega
    ·go_wp2;go_loopw [2,38] (fun Y i wr=>∃ k:Nat,k<=gs.length/\Y=.int .i64 0/\i=.int .i64 k/\Hid (Below w.heap.size w wr)) (fun _ i _=>gs.length-(intOf i).toNat)
     case atStart=>exact⟨0,z0,rfl,rfl,bR⟩
     case round=>
      obtain⟨i,hi,rfl,rfl,HB⟩:=hrel;by_cases I:i<gs.length
      ·obtain⟨g,y⟩:∃ g,gs[i]?=some g:=⟨_,gG I⟩
       have U:=iV (R.out.below HB.out);obtain⟨b,off,K,he⟩:=U.out.row.one i _ (Du y) I;have D:=fun W=>jm (T:=83) (E:=198) (sz:=1) (c:=c) Tryz.underlying83 rfl Tryz.sizeOf198 K I W;simp only[Nat.mul_one] at D;have N:=O.out.len g (gM y);have ah:=iV (R.out.grp g (gM y));have aj:=iV (R.out.archs g (gM y));have ag:=iV (O.out.ok g (gM y));obtain⟨gl,H⟩:∃ gl,g.ts.length=gl:=⟨_,rfl⟩
       rw[H] at he N;have af:=iV H;clear y K H U;go_wp2_with fail;obtain⟨wo,rfl⟩:∃ wo:World,wo=wr:=⟨_,rfl⟩
       go_loopw [2,44] (fun Y q wr=>∃ k:Nat,k<=gl/\Y=.int .i64 0/\q=.int .i64 k/\Hid (Below w.heap.size w wr)) (fun _ q _=>gl-(intOf q).toNat)
       case atStart=>exact⟨0,z0,rfl,rfl,HB⟩
       case round=>
        obtain⟨q,hq,rfl,rfl,J⟩:=hrel;by_cases V:q<gl
        ·have ae:Hid (q<g.ts.length):=by have:=af.out;show _<_;omega
         obtain⟨t,ht⟩:∃ t,g.ts[q]?=some t:=⟨_,gG ae.out⟩
         obtain⟨b2,al,Z,z⟩:=(ah.out.below J.out).elem Ju q t ht;have e0:=z 0 _ rfl;have e1:=z 1 _ rfl;have e2:=z 2 _ rfl;have e3:=z 3 _ rfl;have e4:=z 4 _ rfl;simp only[Nat.add_zero] at e0;have ab:=fun W=>jm (T:=198) (E:=196) (sz:=5) (n:=gl) (c:=g.gc) Tryz.underlying198 rfl Tryz.sizeOf196 Z V W;have TK:=iV (ag.out t (gM ht));have TA:=iV (aj.out t (gM ht));have B2:=iV (J.out.alloc J.out.size (.cells #[.string t.nm,.int .i64 t.op,.string t.ver,.string t.qual,.slice t.aa t.archs.length t.ac] 196));clear ht z Z he D;go_wp2_with fail;refine(OF t TK.out _ (HG.out.below B2.out) (TA.out.below B2.out)).mono ?_;rintro e w2 ⟨rfl,X⟩;have B3:Hid (Below w.heap.size w w2):=jc B2.out X;clear X e0 e1 e2 e3 e4 ab;go_wp2;go_roundw
         case rel=>exact⟨q+1,by omega,rfl,by go_num,B3⟩
         case measure=>simp[intOf];omega
        ·go_wp2;go_roundw
         case rel=>exact⟨i+1,by omega,rfl,by go_num,J⟩
         case measure=>simp[intOf];omega
      ·go_wp2;go_ret;exact⟨rfl,HB.out⟩
end
theorem Cj (h:jZ l=true):mC l=true:=by
 obtain⟨K,D⟩:=tK h;obtain⟨a,r,e,J⟩:=qD h;have key:∀ x,(ru x || [43,46,45].contains x)=true->lz (some 0) x=some 0:=by
  intro x F;have:=nk (fun x=>!(ru x || [43,46,45].contains x)||(!(x==40) && !(x==41)&&nK x)) (by kernel_rfl) x;simp only[F,Bool.not_true,Bool.false_or,Bool.and_eq_true,Bool.not_eq_true'] at this;unfold lz;simp only[this.1.1,this.1.2,this.2];rfl
 have H:∀ (w:LU),(∀ x∈w,(ru x || [43,46,45].contains x)=true)->w.foldl lz (some 0)=some 0:=by
  intro w
  induction w with
  | nil=>intro _;rfl
  | cons x t ih=>intro z;rw[List.foldl_cons,key x (z x (by simp))];exact ih (fun y I=>z y (List.mem_cons_of_mem _ I))
 have z:AM l=true:=by
  rw[e];have:=nk (fun x=>!ru x||wN x) (by kernel_rfl) a;rw[J] at this;exact this
 unfold mC;rw[H l (fun x F=>rC h F),z,dT ⟨by omega,D⟩];rfl
theorem Ck (h:jZ l=true):lV l=true:=by
 obtain⟨J,z⟩:=tK h;obtain⟨a,r,e,F⟩:=qD h;have y:l.all pT=true:=by
  rw[List.all_eq_true];intro x I;have H:=rC h I;have:=nk (fun x=>!(ru x || [43,46,45].contains x)||pT x) (by kernel_rfl) x;rw[H] at this;exact this
 have D:qV a=true:=by
  have:=nk (fun x=>!ru x||qV x) (by kernel_rfl) a;simpa [F] using this
 unfold lV;rw[y,dT ⟨by omega,z⟩,e];simp[D]
def Io (w:LU):Prop:=∀ x∈w,(x==32)=false/\(x==40)=false/\(x==41)=false
def Ip (r:LU):Prop:=r=[]\/(∃ q,r=32::q)\/∃ q,r=41::q
theorem Iq:∀ (w:LU){r:LU},Io w->Ip r->qo 0 (w++r)=w.length
 | [],r,_,hr=>by
  rcases hr with rfl | ⟨q,rfl⟩ | ⟨q,rfl⟩
  ·rfl
  ·rfl
  ·rfl
 | c::w,r,hw,hr=>by
  obtain⟨D,y,H⟩:=hw c (by simp);have z:=Iq w (fun x F=>hw x (List.mem_cons_of_mem _ F)) hr;rw[List.cons_append];unfold qo;rw[D,y,H,z];simp
theorem qE {w:LU}(hn:w≠[])(hw:Io w)(hr:Ip r):jC (w++r)=w/\jR (w++r)=r:=by
 have z:=Iq w hw hr;cases w with
 | nil=>exact absurd rfl hn
 | cons c t=>
  obtain⟨y,F,I⟩:=hw c (by simp);have H:ym (jq (c::t++r))=(c::t).length:=by
   rw[List.cons_append,mg y,<-z];show(if VT c then 1 else qo 0 (c::(t++r)))=_;have:VT c=false:=by unfold VT;rw[F,I];rfl
   rw[this];rfl
  have D:jq (c::t++r)=c::t++r:=by rw[List.cons_append,mg y]
  unfold jC jR;rw[H,D,List.take_left,List.drop_left];exact⟨rfl,rfl⟩
theorem uX {c:UInt8}(h:c=40\/c=41)(r:LU):jC (c::r)=[c]/\jR (c::r)=r:=by
 unfold jC jR;rcases h with rfl | rfl<;>rw[mg (by decide)]<;>exact⟨rfl,rfl⟩
theorem mw (l:LU):jC (32::l)=jC l/\jR (32::l)=jR l:=by
 unfold jC jR;rw[oE];exact⟨rfl,rfl⟩
theorem Ml (n:Nat)(l:LU):ov n (32::l)=ov n l:=by
 unfold ov;rw[(mw l).1,(mw l).2]
theorem Po (f deep n:Nat)(l:LU):nX f deep n (32::l)=nX f deep n l:=by
 cases f with
 | zero=>simp[nX]
 | succ f=>unfold nX;rw[(mw l).1,(mw l).2,Ml]
theorem Pp (f deep n:Nat)(acc:List oM)(op l:LU):pL f deep n acc op (32::l)=pL f deep n acc op l:=by
 cases f with
 | zero=>simp[pL]
 | succ f=>unfold pL;rw[Po]
inductive oM.bare:oM->Prop where
 | mk (nm:LU) (op:Nat) (v:LU) (h1:jZ nm=true) (h2:op<=5) (h3:op=0->v=[]) (h4:op≠0->kf 2 (ke v)=0/\v≠[]/\Io v):oM.bare (.atom nm op v)
theorem Ir (h:jZ l=true):l≠[]/\Io l:=by
 obtain⟨a,r,e,_⟩:=qD h;refine⟨by rw[e];simp,fun x D=>?_⟩;obtain⟨_,_,_,_,z,y,F⟩:=sf x (rC h D);exact⟨by simpa using z,by simpa using y,by simpa using F⟩
theorem aar {op:Nat}(h0:op≠0)(h5:op<=5):Lt (VV op)=op/\VV op≠[]/\Io (VV op):=by
 rcases(by omega:op=1\/op=2\/op=3\/op=4\/op=5) with rfl | rfl | rfl | rfl | rfl
 all_goals
  refine⟨by decide,by decide,?_⟩;intro x y;simp only[VV,List.mem_cons,List.not_mem_nil,or_false] at y
  first
   | (subst y;decide)
   | (rcases y with rfl | rfl<;>decide)
def Ev (r:LU):Prop:=Ip r/\Lt (jC r)=0
theorem Pq {d:oM}(h:d.bare)(hn:n<64)(hR:Ev R):ov n (jX d++R)=some (d,R,n+1)/\jC (jX d++R)≠[]/\jC (jX d++R)≠[40]/\jC (jX d++R)≠[41]:=by
 obtain⟨nm,op,v,I,U,Y,h4⟩:=h;obtain⟨y,N⟩:=Ir I;have F:=(tK I).1;have key:∀ q,Ip q->jC (nm++q)≠[]/\jC (nm++q)≠[40]/\jC (nm++q)≠[41]:=by
  intro q Z;rw[(qE y N Z).1];refine⟨y,?_,?_⟩<;>(intro e;rw[e] at F;simp at F)
 by_cases D:op=0
 ·obtain rfl:=Y D;subst D;have e:jX (.atom nm 0 [])=nm:=by simp[jX]
  rw[e];refine⟨?_,key R hR.1⟩;obtain⟨M,K⟩:=qE y N hR.1;unfold ov;rw[if_neg (by omega),M,K,Cj I,if_pos rfl];unfold rV;rw[if_pos hR.2]
 ·obtain⟨V,H,z⟩:=h4 D;obtain⟨o1,o2,O⟩:=aar D U;have e:jX (.atom nm op v)++R=nm++32::(VV op++32::(v++R)):=by simp[jX,D]
  rw[e];have ht:Ip (32::(VV op++32::(v++R))):=.inr (.inl ⟨_,rfl⟩);refine⟨?_,key _ ht⟩;obtain⟨M,K⟩:=qE y N ht;have J:Ip (32::(v++R)):=.inr (.inl ⟨_,rfl⟩);obtain⟨X,m2⟩:=qE o2 O J;obtain⟨v1,v2⟩:=qE H z hR.1;unfold ov;rw[if_neg (by omega),M,K,Cj I,if_pos rfl];unfold rV;rw[(mw _).1,(mw _).2,X,m2,o1,if_neg D];unfold ra;rw[(mw _).1,(mw _).2,v1,v2,if_neg,if_pos V];rintro(e1 | e1 | e1)
  ·exact H e1
  ·have:=(z 40 (by rw[e1];simp)).2.1;revert this;decide
  ·have:=(z 41 (by rw[e1];simp)).2.2;revert this;decide
theorem zX {d:oM}(h:d.bare)(hn:n<64)(hR:Ev R)(f deep:Nat):nX (f+1) deep n (jX d++R)=some (d,R,n+1):=by
 obtain⟨z,y,D,F⟩:=Pq h hn hR;unfold nX;rw[if_neg (by rintro(e | e);exact y e;exact F e),if_neg D,z]
theorem TX:Ev []:=⟨.inl rfl,rfl⟩
theorem Mm:Ev [41]:=⟨.inr (.inr ⟨[],rfl⟩),by rw[(uX (.inr rfl) []).1];decide⟩
theorem JR (q:LU):jC (32::111::114::32::q)=mW/\jR (32::111::114::32::q)=32::q:=by
 have z:Io mW:=by
  intro x y;simp only[mW,List.mem_cons,List.not_mem_nil,or_false] at y;rcases y with rfl | rfl<;>decide
 have:=qE (w:=mW) (by decide) z (r:=32::q) (.inr (.inl ⟨_,rfl⟩));rw[(mw _).1,(mw _).2];exact this
theorem Ww (q:LU):Ev (32::111::114::32::q):=⟨.inr (.inl ⟨_,rfl⟩),by rw[(JR q).1];decide⟩
theorem Wx (i:Nat)(k:oM)(r:List oM):lP mW (i+1) (k::r)=32::111::114::32::(jX k++lP mW (i+2) r):=by
 have y:VW mW (i+1)=mW:=by
  unfold VW;rw[if_neg];rintro⟨_,h | h⟩<;>revert h<;>decide
 conv=>lhs;unfold lP
 rw[if_neg (by omega),y];simp[mW]
theorem Is:∀ (ks:List oM)(k:oM)(i f deep n:Nat)(acc:List oM),(k::ks).length<=f->(∀ d∈k::ks,d.bare)->n+(k::ks).length<=64->(acc≠[]\/ks≠[]) ->
  pL (f+1) deep n acc (if acc=[] then [] else mW) (jX k++(lP mW (i+1) ks++[41]))=some (.node mW (acc++k::ks),[],n+(k::ks).length)
 | [],k,i,0,deep,n,acc,hf,_,_,_=>by simp at hf
 | [],k,i,f+1,deep,n,acc,_,h,hn,y=>by
  have y:acc≠[]:=by rcases y with h | h;exact h;exact absurd rfl h
  have e:lP mW (i+1) []++[41]=[41]:=by simp[lP]
  rw[e,if_neg y];unfold pL;rw[zX (h k (by simp)) (by simp at hn;omega) Mm];simp only;rw[(uX (.inr rfl) []).1,(uX (.inr rfl) []).2,if_pos ⟨rfl,y⟩];rfl
 | k2::ks,k,i,0,deep,n,acc,hf,_,_,_=>by simp at hf
 | k2::ks,k,i,f+1,deep,n,acc,hf,h,hn,_=>by
  have D:=Is ks k2 (i+1) f deep (n+1) (acc++[k]) (by simp at hf |-;omega) (fun d F=>h d (List.mem_cons_of_mem _ F)) (by simp at hn |-;omega) (.inl (by simp));have e:lP mW (i+1) (k2::ks)++[41]=32::111::114::32::(jX k2++(lP mW (i+2) ks++[41])):=by rw[Wx];simp
  rw[e];unfold pL;rw[zX (h k (by simp)) (by simp at hn;omega) (Ww _)];simp only;rw[(JR _).1,(JR _).2,if_neg (by rintro⟨h1,_⟩;revert h1;decide)];have z:jw (if acc=[] then [] else mW) (acc.length+1) mW=true:=by
   unfold jw;by_cases y:acc=[]
   ·subst y;decide
   ·have:acc.length≠0:=by intro I;exact y (List.eq_nil_of_length_eq_zero I)
    rw[if_neg (by omega),if_neg y];exact dT (.inl ⟨.inr rfl,rfl⟩)
  rw[if_pos z,Pp];have H:(if acc=[] then mW else if acc=[] then [] else mW)=mW:=by split<;>simp_all
  rw[if_neg (by simp)] at D;rw[H,D];simp;omega
inductive oM.flat:oM->Prop where
 | one (d:oM) (h:d.bare):oM.flat d
 | some (k k2:oM) (ks:List oM) (h:∀ d∈k::k2::ks,d.bare) (hn:(k::k2::ks).length<=64):oM.flat (.node mW (k::k2::ks))
theorem It:∀ (ks:List oM)(i:Nat),(∀ d∈ks,d.bare)->ks.length<=(lP mW i ks).length
 | [],_,_=>by simp
 | k::r,i,h=>by
  have F:=It r (i+1) (fun d y=>h d (List.mem_cons_of_mem _ y));have D:0<(jX k).length:=by
   obtain⟨nm,op,v,z,_,_,_⟩:=h k (by simp);have:=(tK z).1;unfold jX;split
   ·omega
   ·simp only[List.length_append];omega
  conv=>rhs;unfold lP
  simp only[List.length_append,List.length_cons];omega
theorem uY {d:oM}(h:d.flat):lJ (jX d)=some d:=by
 unfold lJ;cases h with
 | one d h=>
  have:=zX h (n:=0) (by omega) TX (2*(jX d).length+1) 0;rw[List.append_nil] at this;rw[this];rfl
 | some k k2 ks h hn=>
  have e:jX (.node mW (k::k2::ks))=40::(jX k++(lP mW (0+1) (k2::ks)++[41])):=by
   simp[jX,lP]
  have y:(k2::ks).length<=(lP mW (0+1) (k2::ks)).length:=It (k2::ks) (0+1) (fun d z=>h d (List.mem_cons_of_mem _ z));have D:=Is (k2::ks) k 0 (2*(jX (.node mW (k::k2::ks))).length) 1 0 [] (by rw[e];simp only[List.length_cons,List.length_append] at y |-;omega) h (by simpa using hn) (.inr (by simp));rw[if_pos rfl] at D;have z:nX (2*(jX (.node mW (k::k2::ks))).length+2) 0 0 (jX (.node mW (k::k2::ks)))=some (.node mW (k::k2::ks),[],0+(k::k2::ks).length):=by
   generalize 2*(jX (.node mW (k::k2::ks))).length=F at D;rw[e];unfold nX;rw[(uX (.inl rfl) _).1,(uX (.inl rfl) _).2,if_neg (by decide),if_pos rfl,if_neg (by omega)];exact D
  rw[z];rfl
structure mo.bare (x:mo):Prop where
 name:jZ x.name=true
 op:x.op<=5
 none:x.op=0->x.ver=[]
 ver:x.op≠0->kf 3 (ke x.ver)=0/\(∃ d r,x.ver=d::r/\jV d=true)/\∀ y∈x.ver,(y==32)=false
theorem mo.bare.right {x:mo}(h:x.bare):x.right:=⟨Ck h.name,by have:=h.op;omega,h.none,fun y=>(h.ver (by omega)).1⟩
theorem aas {op:Nat}(h0:op≠0)(h5:op<=5){d:UInt8}(hd:jV d=true):AE (pM op++d::r)=(op,d::r):=by
 have y:jl 61 (d::r)=false:=by
  show(d==61)=false;have:=nk (fun d=>!jV d || !(d==61)) (by kernel_rfl) d;simpa [hd] using this
 rcases(by omega:op=1\/op=2\/op=3\/op=4\/op=5) with rfl | rfl | rfl | rfl | rfl
 ·have e:AE (60::d::r)=if jl 61 (d::r) then (2,(d::r).drop 1) else (1,d::r):=rfl
  show AE (60::d::r)=_;rw[e,y];rfl
 ·rfl
 ·rfl
 ·rfl
 ·have e:AE (62::d::r)=if jl 61 (d::r) then (4,(d::r).drop 1) else (5,d::r):=rfl
  show AE (62::d::r)=_;rw[e,y];rfl
theorem Wy {op:Nat}(h0:op≠0)(h5:op<=5)(q:LU):∀ x,(pM op++q).head?=some x->rj x=false:=by
 rcases(by omega:op=1\/op=2\/op=3\/op=4\/op=5) with rfl | rfl | rfl | rfl | rfl
 all_goals (intro x y;simp only[pM,List.cons_append,List.head?_cons,Option.some.injEq] at y;subst y;decide)
theorem Ew {x:mo}(h:x.bare):oR x.text=some x:=by
 obtain⟨no,nm,op,v⟩:=x;obtain⟨z,F,N,M⟩:=h;simp only at z F N M;obtain⟨a,r,e,R⟩:=qD z;have K:kY (mo.mk no nm op v).text=nm++(pM op++v)/\jl 33 (mo.mk no nm op v).text=no:=by
  unfold kY mo.text;cases no with
  | true=>simp[jl]
  | false=>
   have H:jl 33 (nm++pM op++v)=false:=by rw[e];show(a==33)=false;simpa using(In a R).2.2.2.1
   simp only[Bool.false_eq_true,if_false,List.nil_append,H];simp
 have y:nm.all rj=true:=JP (p:=Gf) fun x J=>(sf x (rC z J)).2.1;unfold oR;rw[K.1,K.2];by_cases D:op=0
 ·obtain rfl:=N D;subst D;have I:jo rj (nm++(pM 0++[]))=nm.length:=uV y (fun x J=>by simp[pM] at J);rw[I,List.take_left,List.drop_left,Ck z,if_pos rfl];rfl
 ·obtain⟨O,⟨d,t,rfl,U⟩,_⟩:=M D;have I:jo rj (nm++(pM op++d::t))=nm.length:=uV y (Wy D F _);rw[I,List.take_left,List.drop_left,Ck z,if_pos rfl];unfold He;rw[aas D F U,if_neg (by simp),if_pos O]
theorem zY {x:mo}(h:x.bare):x.text.all me=true/\∃ a r,x.text=a::r:=by
 constructor
 ·rw[List.all_eq_true];intro y z;have key:∀ y:UInt8,y≠32->me y=true:=fun y z=>by unfold me;simpa [bne] using z
  unfold mo.text at z;rcases List.mem_append.1 z with z | z
  ·split at z
   ·rw[List.mem_singleton.1 z];rfl
   ·simp at z
  ·rcases List.mem_append.1 z with z | z
   ·rcases List.mem_append.1 z with z | z
    ·exact key y (sf y (rC h.name z)).2.2.2.2.1
    ·by_cases D:x.op=0
     ·rw[D] at z;simp[pM] at z
     ·have F:=h.op;rcases(by omega:x.op=1\/x.op=2\/x.op=3\/x.op=4\/x.op=5) with e | e | e | e | e
      all_goals
       rw[e] at z;simp only[pM,List.mem_cons,List.not_mem_nil,or_false] at z
       first
        | (subst z;rfl)
        | (rcases z with rfl | rfl<;>rfl)
   ·by_cases D:x.op=0
    ·rw[h.none D] at z;simp at z
    ·exact key y (by simpa using(h.ver D).2.2 y z)
 ·obtain⟨a,r,e,_⟩:=qD h.name;unfold mo.text;rw[e];cases x.no with
  | true=>exact⟨33,_,rfl⟩
  | false=>exact⟨a,_,rfl⟩
theorem Ex:∀ (L:List mo)(f n:Nat),L.length<f->n+L.length<=64->(∀ x∈L,x.bare)->pV f n (mf L)=some L
 | [],0,n,h,_,_=>by simp at h
 | [],f+1,n,_,_,_=>by
  have:mf []=[]:=rfl;rw[this,zk]
 | x::L,0,n,h,_,_=>by simp at h
 | [x],f+1,n,hf,hn,h=>by
  have H:=h x (by simp);obtain⟨D,a,r,e⟩:=zY H;have M:mf [x]=x.text:=by unfold mf;rw[List.map_singleton,Lib.join_one]
  rw[M];have F:=uV D (r:=[]) (fun c I=>by simp at I);rw[List.append_nil] at F;have J:me a=true:=by rw[e,List.all_cons,Bool.and_eq_true] at D;exact D.1
  have K:oR (x.text.take (jo me x.text))=some x:=by rw[F,List.take_length];exact Ew H
  rw[wM (by rw[e];exact J) (by simp at hn;omega) K,F,List.drop_length];cases f with
  | zero=>simp at hf
  | succ f=>rw[zk];rfl
 | x::y::L,f+1,n,hf,hn,h=>by
  have H:=h x (by simp);have O:=Ex (y::L) f (n+1) (by simp at hf |-;omega) (by simp at hn |-;omega) (fun z N=>h z (List.mem_cons_of_mem _ N));obtain⟨D,a,r,e⟩:=zY H;have M:mf (x::y::L)=x.text++32::mf (y::L):=by unfold mf;rw[List.map_cons,List.map_cons,qj];simp
  have F:=uV D (r:=32::mf (y::L)) (fun c I=>by simp only[List.head?_cons,Option.some.injEq] at I;subst I;rfl);have J:me a=true:=by rw[e,List.all_cons,Bool.and_eq_true] at D;exact D.1
  rw[M];have K:oR ((x.text++32::mf (y::L)).take (jo me (x.text++32::mf (y::L))))=some x:=by rw[F,List.take_left];exact Ew H
  rw[wM (by rw[e];exact J) (by simp at hn;omega) K,F,List.drop_left,AF,O];rfl
theorem zZ:∀ (L:List mo),(∀ x∈L,x.bare)->L.length<=(mf L).length
 | [],_=>by simp
 | [x],h=>by
  obtain⟨_,a,r,e⟩:=zY (h x (by simp));have D:mf [x]=x.text:=by unfold mf;rw[List.map_singleton,Lib.join_one]
  rw[D,e];simp
 | x::y::L,h=>by
  have H:=zZ (y::L) (fun z F=>h z (List.mem_cons_of_mem _ F));have D:mf (x::y::L)=x.text++32::mf (y::L):=by unfold mf;rw[List.map_cons,List.map_cons,qj];simp
  rw[D];simp only[List.length_append,List.length_cons] at H |-;omega
theorem AV {L:List mo}(h:∀ x∈L,x.bare)(hn:L.length<=64):mq (mf L)=some L:=by
 unfold mq;exact Ex L _ 0 (by have:=zZ L h;omega) (by omega) h
section
open Go.RowKit
theorem Iw (s:BA)(h:¬ lE a\/¬ lE b):trans a b s=([],9):=by unfold trans;rw[if_pos h]
theorem Uj (ha:lE a)(hb:lE b)(h:¬ qi a s=0):trans a b s=([],qi a s):=by
 unfold trans;rw[if_neg (by rintro(x | x);exact x ha;exact x hb)];unfold qi at h |-;by_cases y:kf a s=0
 ·rw[if_neg (by simpa using y)] at h |-;rw[if_neg (by simpa using y)];cases hp:uw a (bl s) with
  | none=>rw[if_pos rfl]
  | some c=>rw[hp] at h;simp at h
 ·rw[if_pos y,if_pos y]
theorem WJ (ha:lE a)(hb:lE b)(h:qi a s=0){c:kh}(hc:uw a (bl s)=some c):trans a b s=zN b c:=by
 unfold trans;rw[if_neg (by rintro(x | x);exact x ha;exact x hb)];unfold qi at h;by_cases y:kf a s=0
 ·rw[if_neg (by simpa using y),hc]
 ·rw[if_pos y] at h;exact absurd h y
theorem si (a b:Int)(s:BA)(w:World)(hG:Ps w)(hs:s.size<=9223372036854775807):Calls Tryz.prog 47 #[.int .i64 a,.int .i64 b,.string s] w fun e w'=>e=.returned (va (trans a b s))/\Below w.heap.size w w':=by
 have HG:=iV hG;clear hG;have D:=iV fun W=>zQ a W;have H:=iV fun W=>zQ b W;by_cases R:¬ lE a
 ·have E:=iV (Iw (a:=a) (b:=b) s (.inl R));have F:uu a=true:=by unfold uu;rw[dF R];rfl
  rw[F] at D;clear R F;go_in;go_wp2_with fail;refine(D.out _).mono ?_;rintro e w' ⟨rfl,rfl⟩;go_wp2;go_ret2;exact⟨by rw[E.out];rfl,bR⟩
 have K:lE a:=Decidable.not_not.1 R;have F:uu a=false:=by unfold uu;rw[dT K];rfl
 rw[F] at D;have HA:=iV K;clear R K F;by_cases V:¬ lE b
 ·have E:=iV (Iw (a:=a) (b:=b) s (.inr V));have F:uu b=true:=by unfold uu;rw[dF V];rfl
  rw[F] at H;clear V F;go_in;go_wp2_with fail;refine(D.out _).mono ?_;rintro e w' ⟨rfl,rfl⟩;go_wp2_with fail;refine(H.out _).mono ?_;rintro e w' ⟨rfl,rfl⟩;go_wp2;go_ret2;exact⟨by rw[E.out];rfl,bR⟩
 have z:lE b:=Decidable.not_not.1 V;have F:uu b=false:=by unfold uu;rw[dT z];rfl
 rw[F] at H;have HB:=iV z;clear V z F;go_in;go_wp2_with fail;refine(D.out _).mono ?_;rintro e w' ⟨rfl,rfl⟩;go_wp2_with fail;refine(H.out _).mono ?_;rintro e w' ⟨rfl,rfl⟩;go_wp2_with fail;refine(EO a HA.out s _ HG.out hs).mono ?_;rintro e N ⟨y,rfl,Y,J,X,z⟩;have HO:=iV Y;have HF:=iV J;have aa:=iV X;have B1:=iV z;clear Y J X z;unfold kU.val;have U:Hid (Below N.heap.size N (N.alloc (.cells #[.int .i64 y.ep,.slice y.na y.nums.length y.nc,.string y.lt,.string y.pre,.int .i64 y.pnum,.int .i64 y.rev] 159))):=bR.alloc lr _;by_cases hz:¬ qi a s=0
 ·have E:=iV (Uj HA.out HB.out hz);have q:(qi a s != 0)=true:=by simpa [bne] using hz
  generalize qi a s=pe at *;clear hz;go_wp2;go_ret2;exact⟨by rw[E.out];rfl,jc B1.out U.out⟩
 ·have I:qi a s=0:=Decidable.not_not.1 hz;have E:=iV (WJ HA.out HB.out I (aa.out I));have q:(qi a s != 0)=false:=by rw[I];rfl
  generalize qi a s=pe at *;clear hz I aa;obtain⟨W2,M⟩:∃ W2,N.alloc (.cells #[.int .i64 y.ep,.slice y.na y.nums.length y.nc,.string y.lt,.string y.pre,.int .i64 y.pnum,.int .i64 y.rev] 159)=W2:=⟨_,rfl⟩
  have O:Hid (jh W2 N.heap.size y.cells):=by show jh _ _ _;rw[<-M];exact jh.new N y.cells _
  rw[M] at U;have k0:=O.out.cell 0 _ rfl;have k1:=O.out.cell 1 _ rfl;have k2:=O.out.cell 2 _ rfl;have k3:=O.out.cell 3 _ rfl;have k4:=O.out.cell 4 _ rfl;have k5:=O.out.cell 5 _ rfl;go_wp2_with fail;refine(EE b HB.out y W2 (HG.out.below (jc B1.out U.out)) (Rd.below HO.out U.out) HF.out).mono ?_;rintro e w3 ⟨rfl,Z⟩;have B3:=iV (jc (jc B1.out U.out) Z);clear Z k0 k1 k2 k3 k4 k5 M;obtain⟨⟨r1,r2⟩,hr⟩:∃ r,zN b y.plain=r:=⟨_,rfl⟩
  rw[hr] at E;rw[hr];clear hr;unfold va;go_wp2;go_ret2;exact⟨by rw[E.out];rfl,B3.out⟩
theorem wn (n:Int)(w:World):Calls Tryz.prog 30 #[.int .i64 n] w fun e w'=>e=.returned (.bool (decide (lE n)))/\w=w':=by
 go_in;go_wp2
 all_goals (go_ret;refine⟨iW ?_,rfl⟩;rw[bI];simp[lE];omega)
def jG (a b:Int)(g:jf):jf×Int:=
 if jZ (bl g.nm)=false then (⟨⟨#[]⟩,0,⟨#[]⟩⟩,10) else if g.op=0 then (⟨g.nm,0,⟨#[]⟩⟩,0) else if (trans a b g.ver).2≠0 then (⟨⟨#[]⟩,0,⟨#[]⟩⟩,11) else (⟨g.nm,g.op,⟨(trans a b g.ver).1.toArray⟩⟩,0)
def WK (r:jf×Int):Value:=.tuple #[.agg #[.string r.1.nm,.int .i64 r.1.op,.string r.1.ver],.int .i64 r.2]
def jf.val (g:jf):Value:=.agg #[.string g.nm,.int .i64 g.op,.string g.ver]
theorem AX (a b:Int)(g:jf)(w:World)(hG:Ps w)(h1:g.nm.size<=9223372036854775807)(h2:g.ver.size<=9223372036854775807):Calls Tryz.prog 57 #[.int .i64 a,.int .i64 b,g.val] w fun e w'=>e=.returned (WK (jG a b g))/\Below w.heap.size w w':=by
 have HG:=iV hG;clear hG;obtain⟨R,y⟩:∃ R,(w.alloc (.cells #[.string g.nm,.int .i64 g.op,.string g.ver] 78)).alloc (.cells #[.string ⟨#[]⟩,.int .i64 0,.string ⟨#[]⟩] 78)=R:=⟨_,rfl⟩
 have U:Hid (Below w.heap.size w R):=by rw[<-y];exact(bR.alloc lr _).alloc (by simp) _
 have V:Hid (jh R w.heap.size [.string g.nm,.int .i64 g.op,.string g.ver]):=by show jh _ _ _;rw[<-y];exact(jh.new w [.string g.nm,.int .i64 g.op,.string g.ver] _).alloc _
 have D:Hid (jh R (w.heap.size+1) [.string ⟨#[]⟩,.int .i64 0,.string ⟨#[]⟩]):=by
  show jh _ _ _;rw[<-y];have:=jh.new (w.alloc (.cells #[.string g.nm,.int .i64 g.op,.string g.ver] 78)) [.string ⟨#[]⟩,.int .i64 0,.string ⟨#[]⟩] 78;simpa using this
 have Y:=V.out.cell 0 _ rfl;have k1:=V.out.cell 1 _ rfl;have k2:=V.out.cell 2 _ rfl;have M:=D.out.cell 0 _ rfl;have J:=D.out.cell 1 _ rfl;have O:=D.out.cell 2 _ rfl;have Z:=D.out.free 0 (by simp);have f1:=D.out.free 1 (by simp);have f2:=D.out.free 2 (by simp);unfold jf.val;cases hn:jZ (bl g.nm)
 ·have E:Hid (jG a b g=(⟨⟨#[]⟩,0,⟨#[]⟩⟩,10)):=by show _=_;unfold jG;rw[if_pos hn]
  have N:=iV fun W=>pE g.nm W h1;rw[hn] at N;clear hn;go_in;go_wp2_with fail;refine(N.out _).mono ?_;rintro e w' ⟨rfl,rfl⟩;go_wp2_with fail;refine bodyPost_ret (v:=.tuple #[.agg #[.string ⟨#[]⟩,.int .i64 0,.string ⟨#[]⟩],.int .i64 10]) (by simp[results,Tryz.results57,go_sem,M,J,O]) rfl ?_;exact⟨by rw[E.out];rfl,jb (jb (jb U.out (by omega) _) (by omega) _) (by omega) _⟩
 have N:=iV fun W=>pE g.nm W h1;rw[hn] at N;have F:=iV hn;clear hn;by_cases H:g.op=0
 ·have q:(g.op==0)=true:=by simp[H]
  have E:Hid (jG a b g=(⟨g.nm,0,⟨#[]⟩⟩,0)):=by show _=_;unfold jG;rw[if_neg (by rw[F.out];simp),if_pos H]
  clear H;go_in;go_wp2_with fail;refine(N.out _).mono ?_;rintro e w' ⟨rfl,rfl⟩;go_wp2_with fail;refine bodyPost_ret (v:=.tuple #[.agg #[.string g.nm,.int .i64 0,.string ⟨#[]⟩],.int .i64 0]) (by simp[results,Tryz.results57,go_sem,M,J,O]) rfl ?_;exact⟨by rw[E.out];rfl,jb (jb (jb U.out (by omega) _) (by omega) _) (by omega) _⟩
 have q:(g.op==0)=false:=by simpa using H
 have X:=iV H;clear H;go_in;go_wp2_with fail;clear y;refine(N.out _).mono ?_;rintro e w' ⟨rfl,rfl⟩;go_wp2_with fail;refine(si a b g.ver _ (HG.out.below U.out) h2).mono ?_;rintro e w1 ⟨rfl,z⟩;have B1:=iV (jc U.out z);have K1:=iV (V.out.below z);have I:=iV (D.out.below z);clear z Y k1 k2 M J O Z f1 f2 V D U;have Y:=K1.out.cell 0 _ rfl;have k1:=K1.out.cell 1 _ rfl;have M:=I.out.cell 0 _ rfl;have J:=I.out.cell 1 _ rfl;have O:=I.out.cell 2 _ rfl;have Z:=I.out.free 0 (by simp);have f1:=I.out.free 1 (by simp);have f2:=I.out.free 2 (by simp);obtain⟨⟨t,c⟩,ht⟩:∃ r,trans a b g.ver=r:=⟨_,rfl⟩
 have HT:=iV ht;rw[ht];clear ht;unfold va;by_cases K:c=0
 ·have E:Hid (jG a b g=(⟨g.nm,g.op,⟨t.toArray⟩⟩,0)):=by
   show _=_;unfold jG;rw[if_neg (by rw[F.out];simp),if_neg X.out,HT.out,if_neg (by simp[K])]
  have qc:(c != 0)=false:=by simp[K]
  clear K;go_wp2_with fail;refine bodyPost_ret (v:=.tuple #[.agg #[.string g.nm,.int .i64 g.op,.string ⟨t.toArray⟩],.int .i64 0]) (by simp[results,Tryz.results57,go_sem,M,J,O]) rfl ?_;exact⟨by rw[E.out];rfl,jb (jb (jb B1.out (by omega) _) (by omega) _) (by omega) _⟩
 ·have E:Hid (jG a b g=(⟨⟨#[]⟩,0,⟨#[]⟩⟩,11)):=by
   show _=_;unfold jG;rw[if_neg (by rw[F.out];simp),if_neg X.out,HT.out,if_pos K]
  have qc:(c != 0)=true:=by simpa [bne] using K
  clear K;go_wp2_with fail;refine bodyPost_ret (v:=.tuple #[.agg #[.string ⟨#[]⟩,.int .i64 0,.string ⟨#[]⟩],.int .i64 11]) (by simp[results,Tryz.results57,go_sem,M,J,O]) rfl ?_;exact⟨by rw[E.out];rfl,jb (jb (jb B1.out (by omega) _) (by omega) _) (by omega) _⟩
structure jA where
 bar:Bool
 alts:List jf
def lY {α:Type}(f:α->Int):List α->Int
 | []=>0
 | x::r=>if f x≠0 then f x else lY f r
theorem jM {α:Type}{f:α->Int}:∀ {l:List α},lY f l=0↔∀ x∈l,f x=0
 | []=>by simp[lY]
 | a::r=>by
  unfold lY;have y:=jM (f:=f) (l:=r);by_cases h:f a=0
  ·rw[if_neg (by simpa using h),y];simp[h]
  ·rw[if_pos h];constructor
   ·intro e;exact absurd e h
   ·intro z;exact z a (by simp)
theorem tM {α:Type}{f:α->Int}{l:List α}{x:α}(hx:l[k]?=some x)(hb:∀ y∈l.take k,f y=0)(h:f x≠0):lY f l=f x:=by
 induction l generalizing k with
 | nil=>simp at hx
 | cons a r ih=>
  unfold lY;cases k with
  | zero=>simp at hx;subst hx;rw[if_pos h]
  | succ k=>
   rw[if_neg (by simpa using hb a (by simp))];exact ih (by simpa using hx) (fun y z=>hb y (by simp[z]))
theorem PD {α:Type}{f:α->Int}{a b:List α}(h:∀ x∈a,f x=0):lY f (a++b)=lY f b:=by
 induction a with
 | nil=>rfl
 | cons x r ih=>
  rw[List.cons_append]
  conv=>lhs;unfold lY
  rw[if_neg (by simpa using h x (by simp)),ih (fun y z=>h y (List.mem_cons_of_mem _ z))]
def mG (a:jf):Int:=if jZ (bl a.nm)=false then 10 else if a.op<0\/5<a.op then 1 else if a.op=0 then (if a.ver.size=0 then 0 else 1) else if qi 1 a.ver≠0 then 11 else 0
def vP (d:jA):Int:=if d.alts.length=0\/(d.bar=true/\1<d.alts.length) then 3 else lY mG d.alts
def jt (l:List jA):Nat:=(l.map fun d=>d.alts.length).sum
def pD (l:List jA):Int:=if 64<jt l then 4 else lY vP l
def nf (a b:Int)(d:jA):jA:=⟨d.bar,d.alts.map fun g=>(jG a b g).1⟩
def sj (fmt:Int)(d:jA):Int:=if fmt=3/\1<d.alts.length then 11 else lY (fun g=>(jG 1 fmt g).2) d.alts
def za (fmt:Int)(l:List jA):Int:=if ¬ lE fmt then 9 else if pD l≠0 then pD l else lY (sj fmt) l
def tN (g:jf):kP:=⟨bl g.nm,[],g.op.toNat,bl g.ver,[]⟩
def lh (g:jf):oM:=.atom (bl g.nm) g.op.toNat (bl g.ver)
def vQ (d:jA):oM:=match d.alts with
 | []=>.node mW []
 | [g]=>lh g
 | g::g2::r=>.node mW ((g::g2::r).map lh)
def qk (d:jA):mo:=match d.alts with
 | []=>⟨d.bar,[],0,[]⟩
 | g::_=>⟨d.bar,bl g.nm,g.op.toNat,bl g.ver⟩
def jY (bar:Bool)(l:List jA):List jA:=l.filter fun d=>d.bar==bar
def kE (fmt:Int)(bar:Bool)(l:List jA):List (LU):=
 if fmt=1 then (if jY bar l=[] then [] else [lO ((jY bar l).map fun d=>d.alts.map tN)])
 else if fmt=2 then (jY bar l).map fun d=>jX (vQ d)
 else if bar=true\/l=[] then [] else [mf (l.map qk)]
def xz (fmt:Int)(bar:Bool)(l:List jA):List (LU):=kE fmt bar (l.map (nf 1 fmt))
def vb (t:kP):jf:=⟨ke t.name,t.op,ke t.ver⟩
def wq (bar:Bool)(L:List (List kP)):List jA×Int:=
 if L.any (fun g=>(bar&&decide (g.length≠1))||g.any fun t=>!t.qual.isEmpty || !t.archs.isEmpty)=true then ([],11) else (L.map fun g=>⟨bar,g.map vb⟩,0)
def Mo:oM->Bool
 | .atom _ _ _=>true
 | .node _ _=>false
def EP:oM->jf
 | .atom nm op v=>⟨ke nm,op,ke v⟩
 | .node _ _=>⟨⟨#[]⟩,0,⟨#[]⟩⟩
def vc:oM->List oM
 | .atom nm op v=>[.atom nm op v]
 | .node o ks=>if o=nx then ks else [.node o ks]
def ws:oM->List oM
 | .atom nm op v=>[.atom nm op v]
 | .node o ks=>if o=mW then ks else [.node o ks]
def sk (bar:Bool)(d:oM):List jA×Int:=
 if bar=true then (if Mo d=true then ([⟨true,[EP d]⟩],0) else ([],11))
 else if (vc d).all (fun p=>(ws p).all Mo)=true then ((vc d).map fun p=>⟨false,(ws p).map EP⟩,0) else ([],11)
def tO (x:mo):jf:=⟨ke x.name,x.op,ke x.ver⟩
def wt (bar:Bool)(L:List mo):List jA×Int:=
 if L.any (fun x=>decide (x.op=6)||(bar&&x.no))=true then ([],11) else (L.map fun x=>⟨bar||x.no,[tO x]⟩,0)
def kF (fmt:Int)(bar:Bool)(s:LU):List jA×Int:=
 if fmt=1 then (match mB s with | none=>([],-1) | some L=>wq bar L)
 else if fmt=2 then (match lJ s with | none=>([],-1) | some d=>sk bar d)
 else (match mq s with | none=>([],-1) | some L=>wt bar L)
def sn (fmt:Int)(l:List jA):Int:=lY (fun g=>(jG fmt 1 g).2) (l.flatMap jA.alts)
def mJ (fmt:Int)(bar:Bool)(s:LU):Int:=if (kF fmt bar s).2≠0 then (kF fmt bar s).2 else sn fmt (kF fmt bar s).1
def EU (fmt:Int)(bar:Bool)(s:LU):List jA:=(kF fmt bar s).1.map (nf fmt 1)
def mh (fmt:Int)(bar:Bool)(ts:List (LU)):List jA:=ts.flatMap (EU fmt bar)
def kZ (fmt:Int)(bar:Bool)(ts:List (LU)):Int:=
 if ¬ lE fmt then 9 else if lY (mJ fmt bar) ts≠0 then lY (mJ fmt bar) ts else if 64<jt (mh fmt bar ts) then 4 else 0
structure jf.good (a:jf):Prop where
 name:jZ (bl a.nm)=true
 op0:0<=a.op
 op5:a.op<=5
 none:a.op=0->a.ver=⟨#[]⟩
 ver:a.op≠0->qi 1 a.ver=0
theorem PE {a:jf}(h:mG a=0):a.good:=by
 unfold mG at h;split at h
 ·cases h
 ·rename_i D;split at h
  ·cases h
  ·rename_i F;split at h
   ·rename_i y;split at h
    ·rename_i z;exact⟨by simpa using D,by omega,by omega,fun _=>nH (by rw[kw _ z];rfl),fun h=>absurd y h⟩
    ·cases h
   ·rename_i y;split at h
    ·cases h
    ·rename_i z;exact⟨by simpa using D,by omega,by omega,fun h=>absurd h y,fun _=>by simpa using z⟩
theorem Uk (hf:lE fmt){a:jf}(h:a.good)(he:(jG 1 fmt a).2=0):
  ∃ t:LU,(jG 1 fmt a).1=⟨a.nm,a.op,ke t⟩/\jG fmt 1 ⟨a.nm,a.op,ke t⟩=(a,0)/\(a.op=0->t=[])/\(a.op≠0->∃ c,ll fmt c=true/\t=jU fmt c):=by
 obtain⟨nm,op,ver⟩:=a;obtain⟨I,J,O,H,M⟩:=h;simp only at I J O H M;have z:¬ (jZ (bl nm)=false):=by rw[I];simp
 by_cases y:op=0
 ·obtain rfl:=H y;subst y;refine⟨[],?_,?_,fun _=>rfl,fun h=>absurd rfl h⟩
  ·unfold jG;rw[if_neg z,if_pos rfl];rfl
  ·unfold jG;rw[if_neg z,if_pos rfl]
 ·unfold jG at he;rw[if_neg z,if_neg y] at he;by_cases ht:(trans 1 fmt ver).2≠0
  ·rw[if_pos ht] at he;cases he
  ·have D:(trans 1 fmt ver).2=0:=by simpa using ht
   obtain⟨c,K,F,_,_,_,_,N⟩:=Pm hf (v:=ver) (t:=(trans 1 fmt ver).1) (by rw[<-D]);refine⟨(trans 1 fmt ver).1,?_,?_,fun h=>absurd h y,fun _=>⟨c,K,F⟩⟩
   ·unfold jG;rw[if_neg z,if_neg y,if_neg ht];rfl
   ·unfold jG;simp only;rw[if_neg z,if_neg y,N,if_neg (by simp)];simp only;rw[show(⟨(bl ver).toArray⟩:BA)=ver from oQ ver]
theorem xi {c:kh}(h:ll fmt c=true):jU fmt c≠[]/\(∃ d r,jU fmt c=d::r/\jV d=true)/\∀ x∈jU fmt c,KR x=false/\(x==32)=false/\(x==40)=false/\(x==41)=false:=by
 obtain⟨ok,_⟩:=zO h;obtain⟨d,r,e,y⟩:=TU (fmt:=fmt) ok;refine⟨by rw[e];simp,⟨d,r,e,y⟩,fun x z=>?_⟩;have key:(jV x||lF x||x==46||x==126||x==95||x==58||x==45)=true:=by
  rcases Wu ok z with h | h | h | h | h | h
  ·rw[h];simp
  ·rw[h];simp
  ·rw[h];rfl
  ·rw[h];unfold xy;split<;>rfl
  ·rw[h];rfl
  ·rw[h];rfl
 have:=nk (fun x=>!(jV x||lF x||x==46||x==126||x==95||x==58||x==45)||(!KR x && !(x==32) && !(x==40) && !(x==41))) (by kernel_rfl) x;simp only[key,Bool.not_true,Bool.false_or,Bool.and_eq_true,Bool.not_eq_true'] at this;exact⟨this.1.1.1,this.1.1.2,this.1.2,this.2⟩
structure jf.told (fmt:Int) (a:jf):Prop where
 name:jZ (bl a.nm)=true
 op0:0<=a.op
 op5:a.op<=5
 none:a.op=0->bl a.ver=[]
 ver:a.op≠0->∃ c,ll fmt c=true/\bl a.ver=jU fmt c
theorem Ab (hf:lE fmt){a:jf}(h:a.good)(he:(jG 1 fmt a).2=0):
  (jG 1 fmt a).1.told fmt/\jG fmt 1 (jG 1 fmt a).1=(a,0):=by
 obtain⟨t,I,F,D,z⟩:=Uk hf h he;rw[I];refine⟨⟨h.name,h.op0,h.op5,fun y=>by rw[lS];exact D y,fun y=>?_⟩,F⟩;obtain⟨c,H,ht⟩:=z y;exact⟨c,H,by rw[lS,ht]⟩
theorem Ac {a:jf}(h:a.told 1):(tN a).bare:=by
 have I:=h.op5;have J:=h.op0;refine⟨h.name,rfl,rfl,by show a.op.toNat<=5;omega,fun e=>h.none (by have:a.op.toNat=0:=e;omega),fun e=>?_⟩;have K:¬ a.op.toNat=0:=e;obtain⟨c,y,D⟩:=h.ver (by omega);obtain⟨z,_,F⟩:=xi y;show kf 1 (ke (bl a.ver))=0/\bl a.ver≠[]/\∀ x∈bl a.ver,KR x=false;rw[D];exact⟨sd (.inl rfl) y,z,fun x H=>(F x H).1⟩
theorem vD {a:jf}(h:a.told 2):(lh a).bare:=by
 have I:=h.op5;have J:=h.op0;refine .mk _ _ _ h.name (by omega) (fun e=>h.none (by omega)) (fun e=>?_);obtain⟨c,D,H⟩:=h.ver (by omega);obtain⟨F,_,y⟩:=xi D;rw[H];exact⟨sd (.inr (.inl rfl)) D,F,fun x z=>⟨(y x z).2.1,(y x z).2.2.1,(y x z).2.2.2⟩⟩
theorem EZ (no:Bool){a:jf}(h:a.told 3):(⟨no,bl a.nm,a.op.toNat,bl a.ver⟩:mo).bare:=by
 have J:=h.op5;have K:=h.op0;refine⟨h.name,by show a.op.toNat<=5;omega,fun e=>h.none (by have:a.op.toNat=0:=e;omega),fun e=>?_⟩;have M:¬ a.op.toNat=0:=e;obtain⟨c,z,D⟩:=h.ver (by omega);obtain⟨_,H,F⟩:=xi z;show kf 3 (ke (bl a.ver))=0/\(∃ d r,bl a.ver=d::r/\jV d=true)/\∀ y∈bl a.ver,(y==32)=false;rw[D];exact⟨sd (.inr (.inr rfl)) z,H,fun x I=>(F x I).2.1⟩
structure jA.told (fmt:Int) (d:jA):Prop where
 ne:d.alts≠[]
 one:d.bar=true->d.alts.length=1
 apk:fmt=3->d.alts.length=1
 each:∀ a∈d.alts,a.told fmt
theorem yF {l:List jf}{f:jf->jf}(h:∀ a∈l,f a=a):l.map f=l:=by
 conv=>rhs;rw[<-List.map_id l]
 exact List.map_congr_left fun a y=>h a y
theorem mi {bar:Bool}{l:List jA}{d:jA}(h:d∈jY bar l):d∈l/\d.bar=bar:=by
 unfold jY at h;rw[List.mem_filter] at h;exact⟨h.1,by simpa using h.2⟩
theorem vf {l:List jA}{d:jA}(h:d∈l):d.alts.length<=jt l:=by
 unfold jt
 induction l with
 | nil=>simp at h
 | cons a r ih=>
  rw[List.map_cons,List.sum_cons];rcases List.mem_cons.1 h with rfl | h
  ·omega
  ·have:=ih h;omega
theorem qF (bar:Bool):∀ l:List jA,jt (jY bar l)<=jt l
 | []=>by simp[jY,jt]
 | a::r=>by
  have y:=qF bar r;unfold jt jY at *;rw[List.filter_cons];split
  ·rw[List.map_cons,List.map_cons,List.sum_cons,List.sum_cons];omega
  ·rw[List.map_cons,List.sum_cons];omega
theorem qG {l:List jA}(h:∀ d∈l,d.alts≠[]):l.length<=jt l:=by
 unfold jt
 induction l with
 | nil=>simp
 | cons a r ih=>
  have D:=ih (fun d y=>h d (List.mem_cons_of_mem _ y));have z:=List.length_pos_iff.2 (h a (by simp));rw[List.map_cons,List.sum_cons,List.length_cons];omega
theorem vE (hf:lE fmt){d:jA}(h:vP d=0)(he:sj fmt d=0):(nf 1 fmt d).told fmt/\nf fmt 1 (nf 1 fmt d)=d/\∀ b∈(nf 1 fmt d).alts,(jG fmt 1 b).2=0:=by
 obtain⟨z,alts⟩:=d;unfold vP at h;simp only at h;split at h
 ·cases h
 rename_i K;have J:∀ a∈alts,a.good:=fun a y=>PE (jM.1 h a y);unfold sj at he;simp only at he;split at he
 ·cases he
 rename_i N;have H:∀ a∈alts,(jG 1 fmt a).2=0:=jM.1 he;have M:alts.length≠0:=fun e=>K (.inl e);refine⟨⟨?_,?_,?_,?_⟩,?_,?_⟩
 ·show alts.map (fun g=>(jG 1 fmt g).1)≠[];intro e;apply M;have:=congrArg List.length e;simpa using this
 ·intro D;show(alts.map _).length=1;have I:z=true:=D;rw[List.length_map];have:¬ 1<alts.length:=fun F=>K (.inr ⟨I,F⟩);omega
 ·intro D;show(alts.map _).length=1;rw[List.length_map];have:¬ 1<alts.length:=fun F=>N ⟨D,F⟩;omega
 ·intro b D;obtain⟨a,y,rfl⟩:=List.mem_map.1 D;exact(Ab hf (J a y) (H a y)).1
 ·show(⟨z,(alts.map fun g=>(jG 1 fmt g).1).map fun g=>(jG fmt 1 g).1⟩:jA)=⟨z,alts⟩;congr 1;rw[List.map_map];refine yF fun a y=>?_;show(jG fmt 1 (jG 1 fmt a).1).1=a;rw[(Ab hf (J a y) (H a y)).2]
 ·intro b D;obtain⟨a,y,rfl⟩:=List.mem_map.1 D;rw[(Ab hf (J a y) (H a y)).2]
theorem sq (a b:Int)(l:List jA):jt (l.map (nf a b))=jt l:=by
 unfold jt;rw[List.map_map];congr 1;exact List.map_congr_left fun d _=>by simp[nf]
structure jd where
 bar:Bool
 aa:Option Addr
 ac:Nat
 alts:List jf
def jd.cells (d:jd):List Value:=[.bool d.bar,.slice d.aa d.alts.length d.ac]
def jd.pl (d:jd):jA:=⟨d.bar,d.alts⟩
theorem pq (d:jd):d.cells.length=2:=rfl
def jd.blk (d:jd):Option Nat:=(Value.slice d.aa d.alts.length d.ac).ownBlock
def jd.own (d:jd)(w:World)(lo:Nat):Prop:=w.ownsRow lo 78 3 (.slice d.aa d.alts.length d.ac) d.alts.length (d.alts.flatMap jf.cells)
theorem sr:(Tryz.prog.info? 75).map (fun i=>(i.zero,i.size,i.bytes))=some (some (.agg #[.bool false,.slice none 0 0]),2,32):=by kernel_rfl
structure qm (w:World) (A:Option Addr) (ds:List jd):Prop where
 row:Rd w 2 A ds.length (ds.flatMap jd.cells)
 all:∀ d∈ds,Rd w 3 d.aa d.alts.length (d.alts.flatMap jf.cells)
theorem qm.below {ds:List jd}(h:qm w A ds)(hb:Below w.heap.size w w'):qm w' A ds:=⟨h.row.below hb,fun d y=>(h.all d y).below hb⟩
structure pt (w wr:World) (ds:List jd) (A:Option Addr) (n c:Nat):Prop where
 len:ds.length=n
 row:wr.ownsRow w.heap.size 75 2 (.slice A n c) n (ds.flatMap jd.cells)
 al:∀ d∈ds,d.own wr w.heap.size
 far:ds.Pairwise fun d e=>∀ g,d.blk=some g->e.blk≠some g
 bel:Below w.heap.size w wr
theorem pt.start (w:World):pt w w [] none 0 0:=⟨rfl,World.ownsRow_nil _ _ _ _,by simp,.nil,bR⟩
theorem pt.below {ds:List jd}(h:pt w wr ds A n c)(hb:Below wr.heap.size wr w'):pt w w' ds A n c:=
 ⟨h.len,jp h.row hb,fun x y=>jp (h.al x y) hb,h.far,jc h.bel hb⟩
theorem pt.ok {ds:List jd}(h:pt w wr ds A n c):qm wr A ds:=⟨by rw[h.len];exact jL h.row,fun d y=>jL (h.al d y)⟩
theorem pt.grow {w2:World}{ds:List jd}{A1:Option Addr}{lo:Nat}{o:Obj}{d:jd}(h:pt w wr ds A n c)(hd:d.own wr lo)(hlo:w.heap.size<=lo)(hn:∀ x∈ds,∀ g,x.blk=some g->g<lo)
  (hr:w2.ownsRow w.heap.size 75 2 (.slice A1 (n+1) c1) (n+1) (ds.flatMap jd.cells++d.cells))
  (hg:(wr.alloc o).grownBy w2 (Value.slice A n c).ownBlock):pt w w2 (ds++[d]) A1 (n+1) c1:=by
 have H:=(Below.refl wr.heap.size wr).alloc lr o;have z:=h.below H;have D:d.own (wr.alloc o) w.heap.size:=jK (jp hd H) hlo;refine⟨by simp[h.len],by rw[List.flatMap_append];simpa using hr,fun t ht=>?_,?_,z.bel.grown hg z.bel.size (fun j I=>(z.row.lt j I).1)⟩
 ·rcases List.mem_append.1 ht with ht | ht
  ·exact jH (z.al t ht) z.row (by decide) hg
  ·obtain rfl:=List.mem_singleton.1 ht;exact jH D z.row (by decide) hg
 ·rw[List.pairwise_append];refine⟨h.far,List.pairwise_singleton _ _,fun x K y J g F=>?_⟩;obtain rfl:=List.mem_singleton.1 J;intro e;have N:=hn x K g F;have M:=(hd.lt g e).1;omega
theorem pt.blk_lt {ds:List jd}(h:pt w wr ds A n c):∀ x∈ds,∀ g,x.blk=some g->g<wr.heap.size:=fun x z g y=>((h.al x z).lt g y).2
def jd.head (d:jd):Bool×Option Addr×Nat×Nat:=(d.bar,d.aa,d.ac,d.alts.length)
theorem Cm {ds:List jd}{R:jd->jd->Prop}(h:ds.Pairwise R)(hs:∀ a b,R a b->R b a){x y:jd}(hij:i≠j)(hi:ds[i]?=some x)(hj:ds[j]?=some y):R x y:=by
 rw[List.pairwise_iff_getElem] at h;obtain⟨H,I⟩:=gS hi;obtain⟨D,F⟩:=gS hj;rcases Nat.lt_or_gt_of_ne hij with z | z
 ·have:=h i j H D z;rw[I,F] at this;exact this
 ·have:=h j i D H z;rw[I,F] at this;exact hs _ _ this
theorem tP (a b:jd)(h:∀ g,a.blk=some g->b.blk≠some g):∀ g,b.blk=some g->a.blk≠some g:=fun g z y=>h g y z
theorem WQ {l:List jf}{x:jf}(hj:j<l.length):
  (((l.flatMap jf.cells).set (j*3) (.string x.nm)).set (j*3+1) (.int .i64 x.op)).set (j*3+2) (.string x.ver)=(l.set j x).flatMap jf.cells:=by
 induction l generalizing j with
 | nil=>simp at hj
 | cons a r ih=>
  cases j with
  | zero=>simp[jf.cells]
  | succ j=>
   have:=ih (j:=j) (by simpa using hj);rw[List.set_cons_succ,List.flatMap_cons,List.flatMap_cons,<-this];have e:∀ (k:Nat)(v:Value)(t:List Value),(a.cells++t).set (k+3) v=a.cells++t.set k v:=by intro k v t;rfl
   rw[show(j+1)*3=j*3+3 by omega,e,show j*3+3+1=(j*3+1)+3 by omega,e,show j*3+3+2=(j*3+2)+3 by omega,e]
theorem pt.put {ds:List jd}{cp:Nat}{d:jd}{x:jf}(h:pt w wr ds A n c)(hi:ds[i]?=some d)(hj:j<d.alts.length)(haa:d.aa=some ⟨g,0,none⟩)(hac:d.ac=cp):
  pt w (((wr.setCell ⟨g,j*3,none⟩ (.string x.nm)).setCell ⟨g,j*3+1,none⟩ (.int .i64 x.op)).setCell ⟨g,j*3+2,none⟩ (.string x.ver)) (ds.set i { d with alts:=d.alts.set j x }) A n c:=by
 have Z:=gM hi;have M:=h.al d Z;unfold jd.own at M;rw[haa] at M;have U:=M.stored (j*3) (.string x.nm);have Y:=U.1.stored (j*3+1) (.int .i64 x.op);have V:=Y.1.stored (j*3+2) (.string x.ver);have H:wr.grownBy (((wr.setCell ⟨g,j*3,none⟩ (.string x.nm)).setCell ⟨g,j*3+1,none⟩ (.int .i64 x.op)).setCell ⟨g,j*3+2,none⟩ (.string x.ver)) (some g):=(U.2.trans Y.2).trans V.2;have D:d.blk=some g:=by unfold jd.blk;rw[haa];rfl
 have R:=M.lt g rfl;refine⟨by rw[List.length_set];exact h.len,?_,?_,?_,?_⟩
 ·have hc:(ds.set i { d with alts:=d.alts.set j x }).flatMap jd.cells=ds.flatMap jd.cells:=by
   have:∀ (ds:List jd)(i:Nat),ds[i]?=some d->(ds.set i { d with alts:=d.alts.set j x }).flatMap jd.cells=ds.flatMap jd.cells:=by
    intro ds
    induction ds with
    | nil=>intro i hi;simp at hi
    | cons a r ih=>
     intro i hi;cases i with
     | zero=>simp at hi;subst hi;simp[jd.cells]
     | succ i=>rw[List.set_cons_succ,List.flatMap_cons,List.flatMap_cons,ih i (by simpa using hi)]
   exact this ds i hi
  rw[hc];refine h.row.kept H ?_;have:=rU h.row (h.al d Z) (by decide);rw[show(Value.slice d.aa d.alts.length d.ac).ownBlock=some g from D] at this;exact this
 ·intro y X;rw[List.mem_iff_getElem?] at X;obtain⟨k,z⟩:=X;by_cases I:k=i
  ·subst I;have O:=(gS hi).1;rw[List.getElem?_set_self O] at z;injection z with z;subst z;unfold jd.own;simp only[haa,List.length_set];rw[<-WQ hj];exact V.1
  ·rw[List.getElem?_set_ne (fun e=>I e.symm)] at z;have hf:=Cm h.far tP (fun e=>I e.symm) hi z;refine(h.al y (gM z)).kept H ?_;right;exact hf g D
 ·have key:∀ (ds:List jd)(i:Nat),ds[i]?=some d->(ds.Pairwise fun d e=>∀ g,d.blk=some g->e.blk≠some g)->(ds.set i { d with alts:=d.alts.set j x }).Pairwise fun d e=>∀ g,d.blk=some g->e.blk≠some g:=by
   have K:({ d with alts:=d.alts.set j x }:jd).blk=d.blk:=by unfold jd.blk;simp[Value.ownBlock,haa]
   intro ds
   induction ds with
   | nil=>intro i hi;simp at hi
   | cons a r ih=>
    intro i hi J;rw[List.pairwise_cons] at J;cases i with
    | zero=>
     simp at hi;subst hi;rw[List.set_cons_zero,List.pairwise_cons];exact⟨fun b F g N=>J.1 b F g (by rw[<-K];exact N),J.2⟩
    | succ i=>
     rw[List.set_cons_succ,List.pairwise_cons];refine⟨fun b F g N=>?_,ih i (by simpa using hi) J.2⟩;rcases List.mem_or_eq_of_mem_set F with F | F
     ·exact J.1 b F g N
     ·subst F;rw[K];exact J.1 d (gM (by simpa using hi)) g N
  exact key ds i hi h.far
 ·exact h.bel.grown H h.bel.size (fun k z=>by injection z with z;rw[<-z];exact R.1)
structure Nw (W0 wr:World) (b B1:Nat) (bar:Bool) (G:Option Addr) (m cc:Nat) (L:List jf):Prop where
 bel:Below W0.heap.size W0 wr
 box:jh wr b [.bool bar,.slice G m cc]
 own:wr.ownsRow B1 78 3 (.slice G m cc) m (L.flatMap jf.cells)
 len:L.length=m
 lo:W0.heap.size<=b
 hi:b<B1
 sz:B1<=wr.heap.size
theorem Nw.step {bar:Bool}{b:Nat}{L:List jf}(h:Nw W0 wr b B1 bar G m cc L)(hb:Below wr.heap.size wr w'):Nw W0 w' b B1 bar G m cc L:=
 ⟨jc h.bel hb,h.box.below hb,jp h.own hb,h.len,h.lo,h.hi,Nat.le_trans h.sz hb.size⟩
theorem Nw.app {bar:Bool}{b:Nat}{L:List jf}{x:jf}(h:Nw W0 wr b B1 bar G m cc L)(o:Obj)
  (hown:w6.ownsRow B1 78 3 (.slice G1 (m+1) c1) (m+1) (L.flatMap jf.cells++x.cells))(hg:(wr.alloc o).grownBy w6 (Value.slice G m cc).ownBlock):
  Nw W0 (w6.setCell ⟨b,1,none⟩ (.slice G1 (m+1) c1)) b B1 bar G1 (m+1) c1 (L++[x]):=by
 have lo:=h.lo;have F:=h.hi;have sz:=h.sz;have D:∀ g,(Value.slice G m cc).ownBlock=some g->B1<=g:=fun g z=>(h.own.lt g z).1;have J:some b≠(Value.slice G m cc).ownBlock:=fun e=>by have:=D b e.symm;omega
 have y:w6.grownBy (w6.setCell ⟨b,1,none⟩ (.slice G1 (m+1) c1)) (some b):=ji (World.grownBy.refl w6 (some b)) (.inl rfl) _;refine⟨jb ((h.bel.alloc h.bel.size o).grown hg (by have:=h.bel.size;simp;omega) (fun j H=>by have:=D j H;omega)) (by omega) _,?_,?_,by simp[h.len],lo,F,?_⟩
 ·exact((h.box.alloc o).grownR hg J).set 1 (by simp) _
 ·rw[List.flatMap_append];have:=Ix (j:=1) hown F (.slice G1 (m+1) c1);simpa using this
 ·have I:=hg.size;have K:=y.size;simp at I;omega
theorem Nw.dep {bar:Bool}{b:Nat}{L:List jf}(h:Nw W0 wr b B1 bar G m cc L):(⟨bar,G,cc,L⟩:jd).own wr B1:=by
 unfold jd.own;simp only;rw[h.len];exact h.own
theorem Nw.cells {bar:Bool}{b:Nat}{L:List jf}(h:Nw W0 wr b B1 bar G m cc L):(⟨bar,G,cc,L⟩:jd).cells=[.bool bar,.slice G m cc]:=by unfold jd.cells;simp only;rw[h.len]
def WR (l:List jA):Prop:=l.length<=64/\∀ d∈l,d.alts.length<=64/\∀ g∈d.alts,g.nm.size<=64/\g.ver.size<=64
def nA (r:List jA×Int)(w:World)(e:Ending)(w':World):Prop:=
 ∃ (A:Option Addr) (n c:Nat) (ds:List jd) (code:Int),e=.returned (.tuple #[.slice A n c,.int .i64 code])/\Below w.heap.size w w' /\
  (if r.2=0 then code=0/\ds.map jd.pl=r.1/\pt w w' ds A n c/\WR r.1 else code≠0/\(r.2≠-1->code=r.2)/\A=none/\n=0)
theorem uo {r:List jA×Int}{e:Int}(h:r.2=e)(h0:e≠0)(hb:Below w.heap.size w w'):nA r w (.returned (.tuple #[.slice none 0 0,.int .i64 e])) w':=
 ⟨none,0,0,[],e,rfl,hb,by rw[if_neg (by rw[h];exact h0)];exact⟨h0,fun _=>h.symm,rfl,rfl⟩⟩
theorem yK {r:List jA×Int}{ds:List jd}(h:r=(ds.map jd.pl,0))(hd:pt w w' ds A n c)(hf:WR (ds.map jd.pl)):nA r w (.returned (.tuple #[.slice A n c,.int .i64 0])) w':=
 ⟨A,n,c,ds,0,rfl,hd.bel,by rw[h,if_pos rfl];exact⟨rfl,rfl,hd,hf⟩⟩
def Mx (bar:Bool)(x:mo):Bool:=decide (x.op=6)||(bar&&x.no)
theorem My (bar:Bool)(L:List mo):wt bar L=if L.any (Mx bar)=true then ([],11) else (L.map fun x=>⟨bar||x.no,[tO x]⟩,0):=rfl
theorem IA {bar:Bool}{L:List mo}{x:mo}(hx:x∈L)(h:Mx bar x=true):wt bar L=([],11):=by
 rw[My,if_pos (List.any_eq_true.2 ⟨x,hx,h⟩)]
theorem WU {bar:Bool}{L:List mo}(h:∀ x∈L,Mx bar x=false):wt bar L=(L.map fun x=>⟨bar||x.no,[tO x]⟩,0):=by
 rw[My,if_neg (by rw[Bool.not_eq_true,List.any_eq_false];intro g y;rw[Bool.not_eq_true];exact h g y)]
theorem IB {f:Int}(h:kf f s=0):s.size<=64:=by
 unfold kf at h;split at h
 ·simp at h
 ·split at h
  ·simp at h
  ·omega
theorem Mz {x:mo}(h:x.right):(tO x).nm.size<=64/\(tO x).ver.size<=64:=by
 obtain⟨y,_,z,F⟩:=h;unfold tO;refine⟨?_,?_⟩
 ·show(ke x.name).size<=64;rw[kL];unfold lV at y;simp only[Bool.and_eq_true,decide_eq_true_eq] at y;exact y.1.1.2
 ·show(ke x.ver).size<=64;by_cases D:x.op=0
  ·rw[z D,kL];simp
  ·exact IB (F (by omega))
theorem Rr (w:World)(x:jf):w.heap.size<=w.heap.size/\(⟨false,some ⟨w.heap.size,0,none⟩,1,[x]⟩:jd).own (w.alloc (.cells #[.string x.nm,.int .i64 x.op,.string x.ver] 78)) w.heap.size:=
 ⟨lr,World.ownsRow_lit w #[.string x.nm,.int .i64 x.op,.string x.ver] 1 lr (by unfold maxLen;omega) rfl⟩
theorem IC (w:World)(m:Nat)(h:w.heap.size=m)(t:TypeId)(x y:Value):oP (w.alloc (.cells #[x,y] t)) (m+1) 2 (some ⟨m,0,none⟩) 1 [x,y]:=by subst h;exact tC w t x y
theorem Fa (bar:Bool)(A:Option Addr)(c:Nat)(L:List mo)(w:World)(hr:Rd w 4 A L.length (L.flatMap mo.cells))(hl:L.length<=64)(hR:∀ x∈L,x.right):Calls Tryz.prog 91 #[.slice A L.length c,.bool bar] w (nA (wt bar L) w):=by
 obtain⟨i0,hi,ak,af,ah⟩:=info_parts sr;have HR:=iV hr;have ap:=iV hR;clear hr hR;go_in;go_wp2;go_loopw [6,11] (fun s6 an wr=>∃ (k:Nat) (O:Option Addr) (oc:Nat) (ds:List jd),s6=.slice O k oc/\an=.int .i64 k/\k<=L.length/\Hid (∀ x∈L.take k,Mx bar x=false)/\Hid (ds.map jd.pl=(L.take k).map fun x=>⟨bar||x.no,[tO x]⟩)/\Hid (pt w wr ds O k oc)) (fun _ i _=>L.length-(intOf i).toNat)
 case atStart=>exact⟨0,none,0,[],rfl,rfl,z0,by simp[Hid],rfl,pt.start w⟩
 case round=>
  obtain⟨k,O,oc,ds,rfl,rfl,hk,HN,HO,D0⟩:=hrel;by_cases aj:k<L.length
  ·obtain⟨x,X⟩:∃ x,L[k]?=some x:=⟨_,gG aj⟩
   obtain⟨b,off,hA,he⟩:=(HR.out.below D0.out.bel).elem Jn k x X;have e0:=he 0 _ rfl;have e1:=he 1 _ rfl;have e2:=he 2 _ rfl;have e3:=he 3 _ rfl;simp only[Nat.add_zero] at e0;have av:=fun W=>jm (T:=87) (E:=142) (sz:=4) (c:=c) Tryz.underlying87 rfl Tryz.sizeOf142 hA aj W;have am:=iV (gM X);have R:=iV (jI X);obtain⟨H,ac⟩:∃ H,x.no=H:=⟨_,rfl⟩
   obtain⟨nm,Z⟩:∃ nm,ke x.name=nm:=⟨_,rfl⟩
   obtain⟨N,aa⟩:∃ N,ke x.ver=N:=⟨_,rfl⟩
   have al:Hid (tO x=⟨nm,x.op,N⟩):=by show _=_;unfold tO;rw[Z,aa]
   have V:=iV ac;rw[ac] at e0;rw[Z] at e1;rw[aa] at e3;clear X hA he ac Z aa;obtain⟨D,U⟩:∃ D,wr.alloc (.cells #[.bool H,.string nm,.int .i64 x.op,.string N] 142)=D:=⟨_,rfl⟩
   have B2:Hid (Below wr.heap.size wr D):=by rw[<-U];exact bR.alloc lr _
   have K2:Hid (jh D wr.heap.size [.bool H,.string nm,.int .i64 x.op,.string N]):=by show jh _ _ _;rw[<-U];exact jh.new wr [.bool H,.string nm,.int .i64 x.op,.string N] _
   have k0:=K2.out.cell 0 _ rfl;have k1:=K2.out.cell 1 _ rfl;have k2:=K2.out.cell 2 _ rfl;have k3:=K2.out.cell 3 _ rfl;have ar:wr.heap.size<D.heap.size:=K2.out.sz;have DW:=iV (D0.out.below B2.out);by_cases h6:x.op=6
   ·have q6:((x.op:Int)==6)=true:=by rw[h6];rfl
    have E:=iV (IA (bar:=bar) am.out (by unfold Mx;rw[dT h6];rfl));clear h6;go_wp2;go_ret2;exact uo (by rw[E.out]) (by decide) DW.out.bel
   have q6:((x.op:Int)==6)=false:=beq_eq_false_iff_ne.2 (by omega);have H6:=iV h6;clear h6;by_cases ad:bar=true/\H=true
   ·obtain⟨rfl,rfl⟩:=ad;have E:=iV (IA (bar:=true) am.out (by unfold Mx;rw[V.out];simp));go_wp2;go_ret2;exact uo (by rw[E.out]) (by decide) DW.out.bel
   have EB:Hid (Mx bar x=false):=by
    show _=_;unfold Mx;rw[dF H6.out,V.out];cases bar<;>cases H<;>simp_all
   have D3:=iV (DW.out.below (bR.alloc lr (.cells #[.string nm,.int .i64 x.op,.string N] 78)));have ag:=iV D3.out.row;have ai:=iV DW.out.blk_lt;have LO:=iV (Rr D ⟨nm,x.op,N⟩).2;have J:=DW.out.bel.size;have au:¬ wr.heap.size=D.heap.size:=by omega
   have ab:(bar=true/\H=false/\(bar||x.no)=true)\/(bar=false/\(bar||x.no)=H):=by
    cases bar with
    | true=>left;refine⟨rfl,?_,by rw[Bool.true_or]⟩;cases H;rfl;exact absurd ⟨rfl,rfl⟩ ad
    | false=>right;exact⟨rfl,by rw[V.out];rfl⟩
   have ae:=iV U;clear ad U;rcases ab with⟨rfl,rfl,M⟩ | ⟨rfl,M⟩
   ·have ao:=iV M;clear M;go_upto_region 5 with(fail)
    rw[ae.out]
    go_wp2_with (
     at_builtin
     refine je _ rfl _ _ _ rfl w.heap.size 75 i0 _ 2 32 Tryz.underlying30 hi ak af ah rfl (by omega) (.slice O k oc) k _ rfl (ag.out.alloc _) (D.heap.size+1+1) (some ⟨D.heap.size+1,0,none⟩) 1 1 [.bool true,.slice (some ⟨D.heap.size,0,none⟩) 1 1] rfl (IC _ _ (by simp) _ _ _) (by simp[Value.oneCell']) (by simp only[maxLen];omega) (by first | omega | (simp;omega)) (by first | omega | (simp;omega)) ?_;intro v1 w6 z K I;obtain⟨O1,c1,rfl⟩:=jk z)
    have N1:Hid (pt w w6 (ds++[⟨true,some ⟨D.heap.size,0,none⟩,1,[⟨nm,x.op,N⟩]⟩]) O1 (k+1) c1):=D3.out.grow (lo:=D.heap.size) LO.out J (fun x X g Y=>ai.out x X g Y) z K;clear z K I;go_wp2;go_roundw
    case rel=>exact⟨k+1,O1,c1,_,rfl,by go_num,by omega,iV (fun y F=>by
     rw[R.out] at F;rcases List.mem_append.1 F with F | F
     ·exact HN.out y F
     ·rw[List.mem_singleton.1 F];exact EB.out),by show _=_;rw[R.out,List.map_append,List.map_append,HO.out];congr 1;simp[jd.pl,al.out],N1⟩
    case measure=>simp[intOf];omega
   ·have ao:=iV M;clear M;go_upto_region 5 with(fail)
    rw[ae.out]
    go_wp2_with (
     at_builtin
     refine je _ rfl _ _ _ rfl w.heap.size 75 i0 _ 2 32 Tryz.underlying30 hi ak af ah rfl (by omega) (.slice O k oc) k _ rfl (ag.out.alloc _) (D.heap.size+1+1) (some ⟨D.heap.size+1,0,none⟩) 1 1 [.bool H,.slice (some ⟨D.heap.size,0,none⟩) 1 1] rfl (IC _ _ (by simp) _ _ _) (by simp[Value.oneCell']) (by simp only[maxLen];omega) (by first | omega | (simp;omega)) (by first | omega | (simp;omega)) ?_;intro v1 w6 z K I;obtain⟨O1,c1,rfl⟩:=jk z)
    have N1:Hid (pt w w6 (ds++[⟨H,some ⟨D.heap.size,0,none⟩,1,[⟨nm,x.op,N⟩]⟩]) O1 (k+1) c1):=D3.out.grow (lo:=D.heap.size) LO.out J (fun x X g Y=>ai.out x X g Y) z K;clear z K I;go_wp2;go_roundw
    case rel=>exact⟨k+1,O1,c1,_,rfl,by go_num,by omega,iV (fun y F=>by
     rw[R.out] at F;rcases List.mem_append.1 F with F | F
     ·exact HN.out y F
     ·rw[List.mem_singleton.1 F];exact EB.out),by show _=_;rw[R.out,List.map_append,List.map_append,HO.out];congr 1;simp[jd.pl,al.out,V.out],N1⟩
    case measure=>simp[intOf];omega
  ·have E:Hid (wt bar L=(ds.map jd.pl,0)):=by
    show _=_;rw[WU,HO.out,tL (by omega)];intro g Y;exact HN.out g (by rw[tL (by omega)];exact Y)
   have EF:Hid (WR (ds.map jd.pl)):=by
    rw[HO.out,tL (by omega)];refine⟨by rw[List.length_map];exact hl,fun d hd=>?_⟩;obtain⟨g,Y,rfl⟩:=List.mem_map.1 hd;refine⟨by show([tO g]:List jf).length<=64;simp,fun a ha=>?_⟩;have aq:a∈[tO g]:=ha;rw[List.mem_singleton.1 aq];exact Mz (ap.out g Y)
   go_wp2;go_ret2;exact yK E.out D0.out EF.out
theorem Fb {T:iZ}(h:T.cnt<=64):T.kids.length<=64/\∀ k∈T.kids,k.cnt<=64:=by
 by_cases y:T.kids=[]
 ·rw[y];simp
 ·rw[nY y] at h;exact⟨by have:=pg T.kids;omega,fun k z=>by have:=qT z;omega⟩
def mE (T:iZ):List iZ:=if bl T.op=nx then T.kids else [T]
def oT (T:iZ):List iZ:=if bl T.op=mW then T.kids else [T]
def nQ (T:iZ):jf:=⟨T.nm,T.aop,T.ver⟩
theorem AZ (T:iZ):T.pl=if bl T.op=[] then .atom (bl T.nm) T.aop (bl T.ver) else .node (bl T.op) (T.kids.map iZ.pl):=by
 obtain⟨op,nm,aop,ver,ka,kc,kids⟩:=T;simp only[iZ.pl,iZ.op,iZ.nm,iZ.aop,iZ.ver,iZ.kids,qf];rfl
theorem ZP (T:iZ):Mo T.pl=(bl T.op).isEmpty:=by
 rw[AZ];by_cases h:bl T.op=[]
 ·rw[if_pos h,h];rfl
 ·rw[if_neg h];cases hb:bl T.op with
  | nil=>exact absurd hb h
  | cons a r=>rfl
theorem MB {T:iZ}(h:bl T.op=[]):EP T.pl=nQ T:=by rw[AZ,if_pos h];unfold EP nQ;simp only;rw[oQ,oQ]
theorem ME (T:iZ):(mE T).map iZ.pl=vc T.pl:=by
 unfold mE;by_cases h:bl T.op=[]
 ·rw[if_neg (by rw[h];decide),List.map_singleton,AZ,if_pos h];rfl
 ·rw[AZ,if_neg h];show _=(if bl T.op=nx then T.kids.map iZ.pl else [.node (bl T.op) (T.kids.map iZ.pl)]);by_cases y:bl T.op=nx
  ·rw[if_pos y,if_pos y]
  ·rw[if_neg y,if_neg y,List.map_singleton,AZ,if_neg h]
theorem Rs (T:iZ):(oT T).map iZ.pl=ws T.pl:=by
 unfold oT;by_cases h:bl T.op=[]
 ·rw[if_neg (by rw[h];decide),List.map_singleton,AZ,if_pos h];rfl
 ·rw[AZ,if_neg h];show _=(if bl T.op=mW then T.kids.map iZ.pl else [.node (bl T.op) (T.kids.map iZ.pl)]);by_cases y:bl T.op=mW
  ·rw[if_pos y,if_pos y]
  ·rw[if_neg y,if_neg y,List.map_singleton,AZ,if_neg h]
def vj (p:iZ):Bool:=(oT p).all fun a=>(bl a.op).isEmpty
theorem Y0 (p:iZ):(ws p.pl).all Mo=vj p:=by
 unfold vj;rw[<-Rs,List.all_map];congr 1;funext a;exact ZP a
theorem MF (T:iZ):sk false T.pl=if (mE T).all vj=true then ((mE T).map fun p=>⟨false,(oT p).map nQ⟩,0) else ([],11):=by
 unfold sk;rw[if_neg (by simp)];have e:(vc T.pl).all (fun p=>(ws p).all Mo)=(mE T).all vj:=by
  rw[<-ME,List.all_map];congr 1;funext p;exact Y0 p
 rw[e];by_cases h:(mE T).all vj=true
 ·rw[if_pos h,if_pos h,<-ME,List.map_map];congr 1;refine List.map_congr_left fun p z=>?_;have y:=List.all_eq_true.1 h p z;unfold vj at y;show(⟨false,(ws p.pl).map EP⟩:jA)=⟨false,(oT p).map nQ⟩;rw[<-Rs,List.map_map];congr 1;refine List.map_congr_left fun a D=>?_;exact MB (List.isEmpty_iff.1 (List.all_eq_true.1 y a D))
 ·rw[if_neg h,if_neg h]
theorem Um {T p:iZ}(hp:p∈mE T)(h:vj p=false):sk false T.pl=([],11):=by
 rw[MF,if_neg];intro y;rw[List.all_eq_true.1 y p hp] at h;cases h
theorem WV {T:iZ}(h:∀ p∈mE T,vj p=true):sk false T.pl=((mE T).map fun p=>⟨false,(oT p).map nQ⟩,0):=by
 rw[MF,if_pos (List.all_eq_true.2 h)]
theorem ID (T:iZ):sk true T.pl=if bl T.op=[] then ([⟨true,[nQ T]⟩],0) else ([],11):=by
 unfold sk;rw[if_pos rfl,ZP];by_cases h:bl T.op=[]
 ·rw[if_pos h,if_pos (by rw[h];rfl),MB h]
 ·rw[if_neg h,if_neg];intro e;exact h (List.isEmpty_iff.1 e)
theorem Fc {T:iZ}(h:lT T):(nQ T).nm.size<=64/\(nQ T).ver.size<=64:=by
 cases h with
 | atom nm aop ver hn ho hv0 hv=>
  refine⟨(tD hn).2,?_⟩;show ver.size<=64;by_cases y:aop=0
  ·rw[hv0 y];omega
  ·exact IB (hv (by omega))
 | node op ka kc kids=>exact⟨by show(⟨#[]⟩:BA).size<=64;decide,by show(⟨#[]⟩:BA).size<=64;decide⟩
theorem Un {T:iZ}(h:lT T):∀ a∈oT T,lT a:=by
 intro a y;unfold oT at y;split at y
 ·exact h.kid y
 ·rw[List.mem_singleton.1 y];exact h
theorem PK {T:iZ}(h:lT T):∀ a∈mE T,lT a:=by
 intro a y;unfold mE at y;split at y
 ·exact h.kid y
 ·rw[List.mem_singleton.1 y];exact h
theorem pt.base {ds:List jd}(h:pt w1 wr ds A n c)(hb:Below w.heap.size w w1):pt w wr ds A n c:=
 ⟨h.len,jK h.row hb.size,fun d y=>jK (h.al d y) hb.size,h.far,jc hb h.bel⟩
theorem pt.one (w:World)(bar:Bool)(x:jf):pt w ((w.alloc (.cells #[.string x.nm,.int .i64 x.op,.string x.ver] 78)).alloc (.cells #[.bool bar,.slice (some ⟨w.heap.size,0,none⟩) 1 1] 75)) [⟨bar,some ⟨w.heap.size,0,none⟩,1,[x]⟩] (some ⟨w.heap.size+1,0,none⟩) 1 1:=by
 have D:=(Rr w x).2;have F:=(Below.refl (w.alloc (.cells #[.string x.nm,.int .i64 x.op,.string x.ver] 78)).heap.size (w.alloc (.cells #[.string x.nm,.int .i64 x.op,.string x.ver] 78))).alloc lr (.cells #[.bool bar,.slice (some ⟨w.heap.size,0,none⟩) 1 1] 75);have z:(w.alloc (.cells #[.string x.nm,.int .i64 x.op,.string x.ver] 78)).heap.size=w.heap.size+1:=by simp
 refine⟨rfl,?_,fun d y=>?_,List.pairwise_singleton _ _,?_⟩
 ·have:=World.ownsRow_lit (base:=w.heap.size) (e:=75) (size:=2) (w.alloc (.cells #[.string x.nm,.int .i64 x.op,.string x.ver] 78)) #[.bool bar,.slice (some ⟨w.heap.size,0,none⟩) 1 1] 1 (by omega) (by unfold maxLen;omega) rfl;rw[z] at this;exact this
 ·rw[List.mem_singleton.1 y];exact jp D F
 ·exact(bR.alloc lr _).alloc (by simp) _
def Ff (fmt:Int)(bar:Bool)(ts:List (LU))(w:World)(e:Ending)(w':World):Prop:=
 ∃ (A:Option Addr) (n c:Nat) (ds:List jd) (code:Int),e=.returned (.tuple #[.slice A n c,.int .i64 code])/\Below w.heap.size w w' /\
  (if kZ fmt bar ts=0 then code=0/\ds.map jd.pl=mh fmt bar ts/\pt w w' ds A n c else code≠0/\(kZ fmt bar ts≠-1->code=kZ fmt bar ts)/\A=none/\n=0)
theorem Cn {bar:Bool}{code:Int}(h:kZ fmt bar ts≠0)(hc:code≠0)(he:kZ fmt bar ts≠-1->code=kZ fmt bar ts)(hb:Below w.heap.size w w'):Ff fmt bar ts w (.returned (.tuple #[.slice none 0 0,.int .i64 code])) w':=
 ⟨none,0,0,[],code,rfl,hb,by rw[if_neg h];exact⟨hc,he,rfl,rfl⟩⟩
theorem WZ {bar:Bool}{ds:List jd}(h:kZ fmt bar ts=0)(hd:ds.map jd.pl=mh fmt bar ts)(hD:pt w w' ds A n c):Ff fmt bar ts w (.returned (.tuple #[.slice A n c,.int .i64 0])) w':=
 ⟨A,n,c,ds,0,rfl,hD.bel,by rw[if_pos h];exact⟨rfl,hd,hD⟩⟩
theorem Rw {bar:Bool}(hf:lE fmt){l:List BA}(hx:l[k]?=some x)(h0:∀ y∈l.take k,mJ fmt bar (bl y)=0)(h:mJ fmt bar (bl x)≠0):kZ fmt bar (l.map bl)=mJ fmt bar (bl x):=by
 have:lY (mJ fmt bar) (l.map bl)=mJ fmt bar (bl x):=by
  refine tM (k:=k) (by simp[hx]) (fun y D=>?_) h;rw[<-List.map_take] at D;obtain⟨z,F,rfl⟩:=List.mem_map.1 D;exact h0 z F
 unfold kZ;rw[if_neg (fun H=>H hf),this,if_pos h]
theorem W8 {bar:Bool}(hf:lE fmt){l:List BA}(h0:∀ y∈l,mJ fmt bar (bl y)=0):kZ fmt bar (l.map bl)=if 64<jt (mh fmt bar (l.map bl)) then 4 else 0:=by
 have:lY (mJ fmt bar) (l.map bl)=0:=jM.2 (fun y F=>by obtain⟨z,D,rfl⟩:=List.mem_map.1 F;exact h0 z D);unfold kZ;rw[if_neg (fun H=>H hf),this,if_neg (by simp)]
theorem Ur {bar:Bool}(hf:¬ lE fmt):kZ fmt bar ts=9:=by unfold kZ;rw[if_pos hf]
def GJ (fmt:Int)(P:List jA)(i:Nat)(bar:Bool)(L:List jf)(j:Nat):List jA:=
 (P.take i).map (nf fmt 1)++⟨bar,(L.take j).map (fun g=>(jG fmt 1 g).1)++L.drop j⟩::P.drop (i+1)
def GK (fmt:Int)(P:List jA)(i:Nat):List jA:=(P.take i).map (nf fmt 1)++P.drop i
theorem PY (fmt:Int)(P:List jA):GK fmt P 0=P:=by unfold GK;simp
theorem MJ {P:List jA}{d:jA}(h:P[i]?=some d):GK fmt P i=GJ fmt P i d.bar d.alts 0:=by
 obtain⟨z,y⟩:=gS h;unfold GK GJ;rw[List.drop_eq_getElem_cons z,y];simp
theorem Y2 {P:List jA}{d:jA}(h:P[i]?=some d):GJ fmt P i d.bar d.alts d.alts.length=GK fmt P (i+1):=by
 unfold GK GJ;rw[jI h,List.map_append,List.map_singleton];simp[nf]
theorem Xa {bar:Bool}{P:List jA}{L:List jf}(hi:i<P.length):(GJ fmt P i bar L j)[i]?=some ⟨bar,(L.take j).map (fun g=>(jG fmt 1 g).1)++L.drop j⟩:=by
 unfold GJ;have y:((P.take i).map (nf fmt 1)).length=i:=by rw[List.length_map,List.length_take];omega
 rw[List.getElem?_append_right (by omega),y,Nat.sub_self];rfl
theorem Y3 {bar:Bool}{P:List jA}{L:List jf}{g:jf}(hi:i<P.length)(hg:L[j]?=some g):
  (GJ fmt P i bar L j).set i ⟨bar,((L.take j).map (fun g=>(jG fmt 1 g).1)++L.drop j).set j (jG fmt 1 g).1⟩=GJ fmt P i bar L (j+1):=by
 unfold GJ;have D:((P.take i).map (nf fmt 1)).length=i:=by rw[List.length_map,List.length_take];omega
 obtain⟨z,F⟩:=gS hg;rw[List.set_append_right _ _ (by omega),D,Nat.sub_self,List.set_cons_zero];congr 2;have y:((L.take j).map (fun g=>(jG fmt 1 g).1)).length=j:=by rw[List.length_map,List.length_take];omega
 rw[List.set_append_right _ _ (by omega),y,Nat.sub_self,List.drop_eq_getElem_cons z,List.set_cons_zero,jI hg,List.map_append];simp
theorem Xb (fmt:Int)(P:List jA):GK fmt P P.length=P.map (nf fmt 1):=by unfold GK;simp
theorem MK {L:List jf}{g:jf}(hg:L[j]?=some g):((L.take j).map (fun g=>(jG fmt 1 g).1)++L.drop j)[j]?=some g:=by
 obtain⟨z,D⟩:=gS hg;have y:((L.take j).map (fun g=>(jG fmt 1 g).1)).length=j:=by rw[List.length_map,List.length_take];omega
 rw[List.getElem?_append_right (by omega),y,Nat.sub_self,List.getElem?_drop];simpa using hg
theorem Us {P:List jA}{d:jA}{g:jf}(hd:P[i]?=some d)(hg:d.alts[j]?=some g)(h0:∀ y∈P.take i,∀ x∈y.alts,(jG fmt 1 x).2=0)(h1:∀ x∈d.alts.take j,(jG fmt 1 x).2=0)(h:(jG fmt 1 g).2≠0):sn fmt P=(jG fmt 1 g).2:=by
 obtain⟨K,I⟩:=gS hd;obtain⟨H,D⟩:=gS hg;have e:P.flatMap jA.alts=((P.take i).flatMap jA.alts++d.alts.take j)++(g::(d.alts.drop (j+1)++(P.drop (i+1)).flatMap jA.alts)):=by
  conv=>lhs;rw[<-List.take_append_drop i P,List.drop_eq_getElem_cons K,I,List.flatMap_append,List.flatMap_cons]
  conv=>lhs;rhs;lhs;rw[<-List.take_append_drop j d.alts,List.drop_eq_getElem_cons H,D]
  simp
 unfold sn;rw[e,PD]
 ·unfold lY;rw[if_pos h]
 ·intro x z;rcases List.mem_append.1 z with z | z
  ·obtain⟨y,J,F⟩:=List.mem_flatMap.1 z;exact h0 y J x F
  ·exact h1 x z
theorem ML {P:List jA}(h:∀ y∈P,∀ x∈y.alts,(jG fmt 1 x).2=0):sn fmt P=0:=by
 unfold sn;rw[jM];intro x F;obtain⟨y,D,z⟩:=List.mem_flatMap.1 F;exact h y D x z
theorem Xc {ds:List jd}{d:jd}{x:jf}(h:ds[i]?=some d):(ds.set i { d with alts:=d.alts.set j x }).map jd.head=ds.map jd.head:=by
 rw[List.map_set];have:({ d with alts:=d.alts.set j x }:jd).head=d.head:=by unfold jd.head;simp
 rw[this];apply List.ext_getElem?;intro k;rw[List.getElem?_set];split
 ·rename_i e;subst e;rw[List.getElem?_map,h];simp;exact(gS h).1
 ·rfl
theorem Xd {ds es:List jd}{d e:jd}(h:ds.map jd.head=es.map jd.head)(hd:ds[i]?=some d)(he:es[i]?=some e):d.bar=e.bar/\d.aa=e.aa/\d.ac=e.ac/\d.alts.length=e.alts.length:=by
 have:=congrArg (·[i]?) h;simp only[List.getElem?_map,hd,he,Option.map_some,Option.some.injEq] at this;unfold jd.head at this;injection this with h1 h2;injection h2 with h2 h3;injection h3 with h3 h4;exact⟨h1,h2,h3,h4⟩
theorem pt.join {wo w7:World}{DS D:List jd}{O O1:Option Addr}{oc:Nat}(h:pt w wo DS O n oc)(h2:pt wo w6 D A m c)
  (hr:w7.ownsRow w.heap.size 75 2 (.slice O1 (n+m) c1) (n+m) (DS.flatMap jd.cells++D.flatMap jd.cells))(hg:w6.grownBy w7 (Value.slice O n oc).ownBlock):pt w w7 (DS++D) O1 (n+m) c1:=by
 have z:=h.below h2.bel;have F:=h.bel.size;refine⟨by rw[List.length_append,h.len,h2.len],by rw[List.flatMap_append];exact hr,fun t ht=>?_,?_,z.bel.grown hg z.bel.size (fun j J=>(z.row.lt j J).1)⟩
 ·rcases List.mem_append.1 ht with ht | ht
  ·exact jH (z.al t ht) z.row (by decide) hg
  ·exact jH (jK (h2.al t ht) F) z.row (by decide) hg
 ·rw[List.pairwise_append];refine⟨h.far,h2.far,fun x M y K g H I=>?_⟩;have R:=((h.al x M).lt g H).2;have N:=((h2.al y K).lt g I).1;omega
theorem PZ {P:List jA}{d:jA}(h:P[i]?=some d):jt (P.take (i+1))=jt (P.take i)+d.alts.length:=by
 unfold jt;rw[jI h,List.map_append,List.sum_append];simp
theorem P7 {bar:Bool}{l:List BA}(h:l[k]?=some x):mh fmt bar ((l.take (k+1)).map bl)=mh fmt bar ((l.take k).map bl)++(kF fmt bar (bl x)).1.map (nf fmt 1):=by
 unfold mh;rw[jI h,List.map_append,List.flatMap_append];simp[EU]
theorem Ut (a b:List jA):jt (a++b)=jt a+jt b:=by unfold jt;rw[List.map_append,List.sum_append]
theorem wv {l:List jd}{R:jd->jd->Prop}(hs:∀ a b,R a b->R b a)(h:l.Pairwise R){x:jd}(hx:∀ j y,j≠i->l[j]?=some y->R x y):(l.set i x).Pairwise R:=by
 rw[List.pairwise_iff_getElem] at *;intro a b z F D;rw[List.length_set] at z F;rw[List.getElem_set,List.getElem_set];by_cases I:i=a
 ·rw[if_pos I,if_neg (by omega)];exact hx b _ (by omega) (gG F)
 ·rw[if_neg I];by_cases H:i=b
  ·rw[if_pos H];exact hs _ _ (hx a _ (by omega) (gG z))
  ·rw[if_neg H];exact h a b z F D
theorem Xk {l:List jd}{x:jd}(hi:l[i]?=some x)(b:Bool):(l.flatMap jd.cells).set (i*2) (.bool b)=(l.set i { x with bar:=b }).flatMap jd.cells:=by
 induction l generalizing i with
 | nil=>simp at hi
 | cons a r ih=>
  cases i with
  | zero=>simp at hi;subst hi;simp[jd.cells]
  | succ i=>
   have:=ih (i:=i) (by simpa using hi);rw[List.set_cons_succ,List.flatMap_cons,List.flatMap_cons,<-this];rw[show(i+1)*2=i*2+2 by omega];rfl
theorem Xl {l:List jd}{x:jd}(hi:l[i]?=some x)(G:Option Addr)(cc:Nat)(L:List jf):(l.flatMap jd.cells).set (i*2+1) (.slice G L.length cc)=(l.set i ⟨x.bar,G,cc,L⟩).flatMap jd.cells:=by
 induction l generalizing i with
 | nil=>simp at hi
 | cons a r ih=>
  cases i with
  | zero=>simp at hi;subst hi;simp[jd.cells]
  | succ i=>
   have:=ih (i:=i) (by simpa using hi);rw[List.set_cons_succ,List.flatMap_cons,List.flatMap_cons,<-this];rw[show(i+1)*2+1=(i*2+1)+2 by omega];rfl
theorem MS {l:List jd}{x y:jd}(hy:y∈l.set i x):y=x\/∃ j,j≠i/\l[j]?=some y:=by
 rw[List.mem_iff_getElem?] at hy;obtain⟨k,z⟩:=hy;by_cases D:k=i
 ·subst D;have F:k<l.length:=by
   have:=(gS z).1;rwa [List.length_set] at this
  rw[List.getElem?_set_self F] at z;injection z with z;exact .inl z.symm
 ·rw[List.getElem?_set_ne (fun e=>D e.symm)] at z;exact .inr ⟨k,D,z⟩
theorem pt.setBar {ds:List jd}{x:jd}(h:pt w wr ds (some ⟨g,0,none⟩) n c)(hi:ds[i]?=some x)(b:Bool):
  pt w (wr.setCell ⟨g,i*2,none⟩ (.bool b)) (ds.set i { x with bar:=b }) (some ⟨g,0,none⟩) n c:=by
 have z:=h.row.stored (i*2) (.bool b);have K:=h.row.lt g rfl;refine⟨by rw[List.length_set];exact h.len,by rw[<-Xk hi];exact z.1,fun y J=>?_,?_,h.bel.grown z.2 h.bel.size (fun k H=>by injection H with H;omega)⟩
 ·rcases MS J with rfl | ⟨j,_,D⟩
  ·exact jH (h.al x (gM hi)) h.row (by decide) z.2
  ·exact jH (h.al y (gM D)) h.row (by decide) z.2
 ·exact wv tP h.far fun j y F D=>fun q I=>Cm h.far tP (fun e=>F e.symm) hi D q I
theorem pt.setAlt {ds:List jd}{x:jd}{a:jf}(h:pt w w1 ds (some ⟨g,0,none⟩) n c)(hi:ds[i]?=some x)(hm:x.alts.length=m)
  (hr:w6.ownsRow w.heap.size 78 3 (.slice G1 (m+1) c1) (m+1) (x.alts.flatMap jf.cells++a.cells))
  (hg:w1.grownBy w6 (Value.slice x.aa m x.ac).ownBlock)(ha:(Value.slice G1 (m+1) c1).ownBlock=(Value.slice x.aa m x.ac).ownBlock\/(Value.slice G1 (m+1) c1).ownBlock=some w1.heap.size):
  pt w (w6.setCell ⟨g,i*2+1,none⟩ (.slice G1 (m+1) c1)) (ds.set i ⟨x.bar,G1,c1,x.alts++[a]⟩) (some ⟨g,0,none⟩) n c:=by
 subst hm;have R:=h.al x (gM hi);have D:w6.ownsRow w.heap.size 75 2 (.slice (some ⟨g,0,none⟩) n c) n (ds.flatMap jd.cells):=h.row.kept hg (rU h.row R (by decide));have K:=D.stored (i*2+1) (.slice G1 (x.alts.length+1) c1);have V:=h.row.lt g rfl;have I:Below w.heap.size w w6:=h.bel.grown hg h.bel.size (fun k J=>(R.lt k J).1);refine⟨by rw[List.length_set];exact h.len,?_,fun y U=>?_,?_,I.grown K.2 I.size (fun k J=>by injection J with J;omega)⟩
 ·have:=Xl hi G1 c1 (x.alts++[a]);rw[List.length_append,List.length_singleton] at this;rw[<-this];exact K.1
 ·rcases MS U with rfl | ⟨j,F,H⟩
  ·unfold jd.own;simp only[List.length_append,List.length_singleton,List.flatMap_append,List.flatMap_cons,List.flatMap_nil,List.append_nil];exact jH hr D (by decide) K.2
  ·have N:=Cm h.far tP (fun e=>F e.symm) hi H;have O:y.own w6 w.heap.size:=by
    refine(h.al y (gM H)).kept hg ?_;cases M:(Value.slice y.aa y.alts.length y.ac).ownBlock with
    | none=>exact .inl rfl
    | some q=>right;intro e;exact N q e.symm M
   exact jH O D (by decide) K.2
 ·refine wv tP h.far fun j y F H=>?_;intro q M;have N:=Cm h.far tP (fun e=>F e.symm) hi H;have z:(Value.slice G1 (x.alts.length+1) c1).ownBlock=some q:=by unfold jd.blk at M;simpa using M
  rcases ha with ha | ha
  ·rw[ha] at z;exact N q z
  ·rw[ha] at z;injection z with z;intro e;have:=((h.al y (gM H)).lt q e).2;omega
def Fl:jd:=⟨false,none,0,[]⟩
theorem Xm (n i:Nat)(h:i<n*2):((List.replicate n Fl).flatMap jd.cells)[i]?=some (if i % 2=0 then .bool false else .slice none 0 0):=by
 induction n generalizing i with
 | zero=>omega
 | succ n ih=>
  rw[List.replicate_succ,List.flatMap_cons]
  match i with
  | 0=>rfl
  | 1=>rfl
  | i+2=>
   have:=ih i (by omega);rw[show(i+2) % 2=i % 2 by omega,<-this];rfl
theorem UA (n:Nat):((List.replicate n Fl).flatMap jd.cells).length=n*2:=by
 induction n with
 | zero=>rfl
 | succ n ih=>rw[List.replicate_succ,List.flatMap_cons,List.length_append,ih];simp[jd.cells];omega
theorem UB (n:Nat):(madeCells (Value.agg #[.bool false,.slice none 0 0]).cells (n*2)).toList=(List.replicate n Fl).flatMap jd.cells:=by
 apply List.ext_getElem?;intro i;by_cases h:i<n*2
 ·rw[Xm n i h];rw[Array.getElem?_toList];unfold madeCells;rcases Nat.mod_two_eq_zero_or_one i with e | e
  ·simp[h,Value.cells,e]
  ·simp[h,Value.cells,e]
 ·rw[List.getElem?_eq_none (by simp[size_madeCells];omega),List.getElem?_eq_none (by rw[UA];omega)]
theorem pt.made {w0:World}(hb:Below w.heap.size w w0)(hr:w1.ownsRow w.heap.size 75 2 (.slice (some ⟨g,0,none⟩) n n) n (madeCells (Value.agg #[.bool false,.slice none 0 0]).cells (n*2)).toList)(hg:w0.grownBy w1 none):
  pt w w1 (List.replicate n Fl) (some ⟨g,0,none⟩) n n:=by
 refine⟨by simp,by rw[<-UB];exact hr,fun d D=>?_,?_,hb.grown hg hb.size (by simp)⟩
 ·obtain rfl:=List.eq_of_mem_replicate D;exact World.ownsRow_nil _ _ _ _
 ·rw[List.pairwise_iff_getElem];intro i j H F z;simp only[List.getElem_replicate];intro g y;exact absurd y (by simp[Fl,jd.blk,Value.ownBlock])
def aaF (fmt:Int)(bar:Bool)(ts:List (LU)):List jA:=ts.flatMap fun s=>(kF fmt bar s).1
theorem aa7 (l:LU):(⟨l.toArray⟩:BA)=ke l:=rfl
theorem Qe {g:jf}(h:(jG a b g).2=0):(g.op=0/\(jG a b g).1=⟨g.nm,0,⟨#[]⟩⟩)\/(g.op≠0/\(trans a b g.ver).2=0/\(jG a b g).1=⟨g.nm,g.op,⟨(trans a b g.ver).1.toArray⟩⟩):=by
 unfold jG at h |-;split at h
 ·cases h
 ·rename_i z;rw[if_neg z];split at h
  ·rename_i y;rw[if_pos y];exact .inl ⟨y,rfl⟩
  ·rename_i y;rw[if_neg y];split at h
   ·cases h
   ·rename_i ht;rw[if_neg ht];exact .inr ⟨y,by simpa using ht,rfl⟩
theorem UJ {bar:Bool}(h:kZ fmt bar ts=0):lE fmt/\(∀ s∈ts,(kF fmt bar s).2=0)/\∀ d∈aaF fmt bar ts,∀ g∈d.alts,(jG fmt 1 g).2=0:=by
 unfold kZ at h;by_cases D:lE fmt
 rotate_left
 ·rw[if_pos D] at h;cases h
 rw[if_neg (fun J=>J D)] at h;by_cases z:lY (mJ fmt bar) ts=0
 rotate_left
 ·rw[if_pos z] at h;exact absurd h z
 have z:=jM.1 z;have H:∀ s∈ts,(kF fmt bar s).2=0/\sn fmt (kF fmt bar s).1=0:=by
  intro s y;have:=z s y;unfold mJ at this;by_cases ht:(kF fmt bar s).2=0
  ·rw[if_neg (by simpa using ht)] at this;exact⟨ht,this⟩
  ·rw[if_pos ht] at this;exact absurd this ht
 refine⟨D,fun s y=>(H s y).1,fun d I g K=>?_⟩;obtain⟨s,y,F⟩:=List.mem_flatMap.1 I;have:=(H s y).2;unfold sn at this;exact jM.1 this g (List.mem_flatMap.2 ⟨d,F,K⟩)
theorem MV (fmt:Int)(bar:Bool)(ts:List (LU)):mh fmt bar ts=(aaF fmt bar ts).map (nf fmt 1):=by
 unfold mh EU aaF;rw[List.map_flatMap]
theorem J8 {a:jf}(h:a.told fmt):(bl a.nm).length<=64/\(bl a.ver).length<=64/\a.op.toNat<=5:=by
 have D:=h.op0;have F:=h.op5;refine⟨(tK h.name).2,?_,by omega⟩;by_cases e:a.op=0
 ·rw[h.none e];simp
 ·obtain⟨c,y,z⟩:=h.ver e;rw[z];unfold ll at y;simp only[Bool.and_eq_true,decide_eq_true_eq] at y;exact y.2.2
theorem FA (k:Nat)(h:k<=5):(KW k).length<=2/\(VV k).length<=2/\(pM k).length<=2:=by
 rcases(by omega:k=0\/k=1\/k=2\/k=3\/k=4\/k=5) with rfl | rfl | rfl | rfl | rfl | rfl<;>decide
theorem IV {a:jf}(h:a.told 1):(tN a).text.length<=200:=by
 obtain⟨F,z,y⟩:=J8 h;have D:=(FA _ y).1;unfold kP.text tN;simp only[List.isEmpty_nil,if_true,List.append_nil];split
 ·simp;omega
 ·simp only[List.length_append,List.length_cons,List.length_nil];omega
theorem Ap {a:jf}(h:a.told 2):(jX (lh a)).length<=200:=by
 obtain⟨F,z,y⟩:=J8 h;have D:=(FA _ y).2.1;unfold lh;simp only[jX];split
 ·omega
 ·simp only[List.length_append,List.length_cons,List.length_nil];omega
theorem IW (no:Bool){a:jf}(h:a.told 3):(⟨no,bl a.nm,a.op.toNat,bl a.ver⟩:mo).text.length<=200:=by
 obtain⟨F,z,y⟩:=J8 h;have D:=(FA _ y).2.2;unfold mo.text;simp only;cases no<;>simp only[List.length_append,List.length_cons,List.length_nil,if_true,if_false,Bool.false_eq_true]<;>omega
theorem xw:∀ (l:List jf)(i:Nat),(∀ a∈l,a.told 2)->(lP mW i (l.map lh)).length<=l.length*212
 | [],i,_=>by simp[lP]
 | a::r,i,h=>by
  have D:=Ap (h a (by simp));have z:=xw r (i+1) (fun x y=>h x (by simp[y]));have F:=QZ (op:=mW) (i:=i) (by decide);simp only[List.map_cons,lP,List.length_append,List.length_cons];split
  ·simp;omega
  ·simp;omega
theorem Nk {l:List jA}(h:za fmt l=0):lE fmt/\(∀ d∈l.map (nf 1 fmt),d.told fmt)/\jt (l.map (nf 1 fmt))<=64:=by
 unfold za at h;by_cases z:lE fmt
 rotate_left
 ·rw[if_pos z] at h;cases h
 rw[if_neg (fun F=>F z)] at h;by_cases y:pD l=0
 rotate_left
 ·rw[if_pos y] at h;exact absurd h y
 rw[if_neg (by simpa using y)] at h;unfold pD at y;split at y
 ·cases y
 rename_i H;refine⟨z,fun d I=>?_,by rw[sq];omega⟩;obtain⟨x,D,rfl⟩:=List.mem_map.1 I;exact(vE z (jM.1 y x D) (jM.1 h x D)).1
end
end Go.Proofs.YtkmjcombhjombaaGreatDoor
