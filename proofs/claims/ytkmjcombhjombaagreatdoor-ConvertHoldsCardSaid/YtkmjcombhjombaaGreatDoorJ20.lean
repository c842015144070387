/- A part of the proof. -/
import Derived.Test.YtkmjcombhjombaaGreatDoorJ19
set_option maxRecDepth 100000
set_option maxHeartbeats 20000000
set_option linter.unusedVariables false
set_option linter.unusedSimpArgs false
namespace Go.Proofs.YtkmjcombhjombaaGreatDoor
variable{AR V s:BA}{bar:Bool}{Q:Exit->Act->World->Prop}{a b code ec fmt:Int}{l:LU}{ts:List (LU)}{acc:List Pc}{B N c c1 c2 k kb et n:Nat}{T:Nat->Prop}{f:Nat->Value}{A A1 A2:OA}{v:Value}{W w w' wr:World}
open Go.Proofs.Tryz
section
open Go.RowKit
def opB (op c:Int):Bool:=if op=1 then decide (c<0) else if op=2 then decide (c<=0) else if op=3 then decide (c=0) else if op=4 then decide (0<=c) else if op=5 then decide (0<c) else false
def mV (fmt op:Int)(v u:BA):Bool:=if gL fmt v≠0\/gL fmt u≠0 then false else opB op (Wi fmt v u)
def BR (fmt:Int)(a g:fP):Bool:=if g.nm≠a.nm then false else if a.op=0 then true else if g.op=3 then mV fmt a.op g.ver a.ver else decide (fmt=2/\g.op=0)
def WW (fmt:Int)(a:fP)(p:jo):Bool:=(decide (p.nm=a.nm)&&(decide (a.op=0)||mV fmt a.op p.ver a.ver))||p.gives.any (BR fmt a)
def pL (fmt:Int)(set:List jo)(a:fP):Bool:=set.any (WW fmt a)
def Lm (fmt:Int)(set:List jo)(d:gI):Bool:=(d.alts.any (pL fmt set)) != d.bar
def jk (fmt:Int)(set:List jo)(l:List gI):Bool:=l.all (Lm fmt set)
def pW (fmt:Int)(bar:Bool)(ts:List (LU)):List gI:=ts.flatMap fun s=>(ip fmt bar s).1
theorem oT (F:iY a)(H:iY b){v:BA}(h:(trans a b v).2=0):
  ∃ c,gL a v=0/\sd a (bl v)=some c/\iR b c=true/\(trans a b v).1=gH b c:=by
 unfold trans at h |-;rw[if_neg (by rintro(x | x);exact x F;exact x H)] at h |-;by_cases z:gL a v=0
 ·rw[if_neg (by simpa using z)] at h |-;cases hp:sd a (bl v) with
  | none=>rw[hp] at h;cases h
  | some c=>
   rw[hp] at h;simp only at h |-;unfold vq at h |-;by_cases D:iR b c=true
   ·rw[if_pos D];exact⟨c,z,rfl,D,rfl⟩
   ·rw[if_neg D] at h;cases h
 ·rw[if_pos z] at h;exact absurd h z
theorem Oj (l:LU):(⟨l.toArray⟩:BA)=gX l:=rfl
theorem vi (F:iY a)(z:iY b){v:BA}(h:(trans a b v).2=0):gL b ⟨(trans a b v).1.toArray⟩=0:=by
 obtain⟨c,_,_,D,e⟩:=oT F z h;rw[e,Oj];exact ol z D
theorem yy (z:iY a)(D:iY b){op:Int}{v u:BA}(H:(trans a b v).2=0)(F:(trans a b u).2=0):
  mV a op v u=mV b op ⟨(trans a b v).1.toArray⟩ ⟨(trans a b u).1.toArray⟩:=by
 obtain⟨c,I,V,X,U⟩:=oT z D H;obtain⟨d,J,Y,M,Z⟩:=oT z D F;obtain⟨K,tc⟩:=uS V;obtain⟨R,O⟩:=uS Y;unfold mV;rw[if_neg (fun h=>h.elim (fun h=>h I) (fun h=>h J)),if_neg (fun h=>h.elim (fun h=>h (vi z D H)) (fun h=>h (vi z D F)))];rw[Jx z K R I J tc.symm O.symm,Jx D X M (vi z D H) (vi z D F) (by rw[U,Oj,iS]) (by rw[Z,Oj,iS])]
theorem tp {g:fP}(h:(gz a b g).2=0):(g.op=0/\(gz a b g).1=⟨g.nm,0,⟨#[]⟩⟩)\/(g.op≠0/\(trans a b g.ver).2=0/\(gz a b g).1=⟨g.nm,g.op,⟨(trans a b g.ver).1.toArray⟩⟩):=by
 unfold gz at h |-;split at h
 ·cases h
 ·rename_i D;rw[if_neg D];split at h
  ·rename_i z;rw[if_pos z];exact .inl ⟨z,rfl⟩
  ·rename_i z;rw[if_neg z];split at h
   ·cases h
   ·rename_i ht;rw[if_neg ht];exact .inr ⟨z,by simpa using ht,rfl⟩
theorem Zi (R:iY a)(K:iY b){g:fP}{x:jo}(M:(gz a b g).2=0)(F:qD a b x=0):WW a g x=WW b (gz a b g).1 (lY a b x):=by
 unfold qD at F;split at F
 ·cases F
 ·split at F
  ·cases F
  ·rename_i J;split at F
   ·cases F
   ·rename_i H;have J:(trans a b x.ver).2=0:=by simpa using J
    have H:∀ y∈x.gives,y.op=3/\(trans a b y.ver).2=0:=by
     intro y z;have Y:(x.gives.all fun g=>decide (EC a b g=0))=true:=by simpa using H
     have I:=dO (List.all_eq_true.1 Y y z);unfold EC at I;split at I
     ·cases I
     ·rename_i Z;split at I
      ·cases I
      ·rename_i X;exact⟨Decidable.not_not.1 Z,by simpa using X⟩
    unfold WW;have O:∀ y∈x.gives,BR a g y=BR b (gz a b g).1 (po a b y):=by
     intro y z;obtain⟨U,k2⟩:=H y z;unfold BR po;simp only;rw[if_pos U,if_pos trivial];rcases tp M with⟨D,e⟩ | ⟨D,ht,e⟩
     ·rw[e];simp only;rw[if_pos D,if_pos trivial]
     ·rw[e];simp only;rw[if_neg D,if_neg D,yy R K k2 ht]
    have e3:x.gives.any (BR a g)=(lY a b x).gives.any (BR b (gz a b g).1):=by
     unfold lY;simp only;rw[List.any_map];rw[bI,List.any_eq_true,List.any_eq_true];constructor
     ·rintro⟨y,z,h⟩;exact⟨y,z,by rw[Function.comp,<-O y z];exact h⟩
     ·rintro⟨y,z,h⟩;exact⟨y,z,by rw[O y z];exact h⟩
    rw[e3];congr 1;have e4:(lY a b x).nm=x.nm:=rfl;have V:(lY a b x).ver=⟨(trans a b x.ver).1.toArray⟩:=rfl;rw[e4,V];rcases tp M with⟨D,e⟩ | ⟨D,ht,e⟩
    ·rw[e];simp[D]
    ·rw[e];simp only;rw[yy R K J ht]
theorem wK {l:List jo}(h:nB a b l=0):iY a/\iY b/\∀ x∈l,qD a b x=0:=by
 unfold nB at h;split at h
 ·cases h
 ·rename_i H;have z:iY a/\iY b:=⟨Classical.byContradiction fun h=>H (.inl h),Classical.byContradiction fun h=>H (.inr h)⟩
  refine⟨z.1,z.2,?_⟩;clear H z
  induction l with
  | nil=>intro x D;simp at D
  | cons y r ih=>
   unfold zw at h;by_cases F:qD a b y=0
   ·rw[if_neg (by simpa using F)] at h;intro x D;rcases List.mem_cons.1 D with rfl | D
    ·exact F
    ·exact ih h x D
   ·rw[if_pos F] at h;exact absurd h F
theorem Ok {α:Type}{f g:α->Bool}{l:List α}(h:∀ x∈l,f x=g x):l.any f=l.any g:=by
 rw[bI,List.any_eq_true,List.any_eq_true];constructor
 ·rintro⟨x,hx,e⟩;exact⟨x,hx,by rw[<-h x hx];exact e⟩
 ·rintro⟨x,hx,e⟩;exact⟨x,hx,by rw[h x hx];exact e⟩
theorem yz {α:Type}{f g:α->Bool}{l:List α}(h:∀ x∈l,f x=g x):l.all f=l.all g:=by
 rw[bI,List.all_eq_true,List.all_eq_true];constructor
 ·intro k x z;rw[<-h x z];exact k x z
 ·intro k x z;rw[h x z];exact k x z
theorem Ru {set:List jo}(F:nB a b set=0){g:fP}(I:(gz a b g).2=0):pL a set g=pL b (set.map (lY a b)) (gz a b g).1:=by
 obtain⟨D,H,J⟩:=wK F;unfold pL;rw[List.any_map];exact Ok fun x z=>by rw[Function.comp];exact Zi D H I (J x z)
theorem Wj {set:List jo}(z:nB a b set=0){d:gI}(F:∀ g∈d.alts,(gz a b g).2=0):Lm a set d=Lm b (set.map (lY a b)) (kD a b d):=by
 unfold Lm kD;simp only;rw[List.any_map];congr 1;exact Ok fun g D=>by rw[Function.comp];exact Ru z (F g D)
theorem zY (h:jc fmt bar ts=0):iY fmt/\(∀ s∈ts,(ip fmt bar s).2=0)/\∀ d∈pW fmt bar ts,∀ g∈d.alts,(gz fmt 1 g).2=0:=by
 unfold jc at h;by_cases F:iY fmt
 rotate_left
 ·rw[if_pos F] at h;cases h
 rw[if_neg (fun M=>M F)] at h;by_cases D:iz (kI fmt bar) ts=0
 rotate_left
 ·rw[if_pos D] at h;exact absurd h D
 have D:=gD.1 D;have I:∀ s∈ts,(ip fmt bar s).2=0/\qJ fmt (ip fmt bar s).1=0:=by
  intro s z;have:=D s z;unfold kI at this;by_cases ht:(ip fmt bar s).2=0
  ·rw[if_neg (by simpa using ht)] at this;exact⟨ht,this⟩
  ·rw[if_pos ht] at this;exact absurd this ht
 refine⟨F,fun s z=>(I s z).1,fun d J g K=>?_⟩;obtain⟨s,z,H⟩:=List.mem_flatMap.1 J;have:=(I s z).2;unfold qJ at this;exact gD.1 this g (List.mem_flatMap.2 ⟨d,H,K⟩)
theorem yA (fmt:Int)(bar:Bool)(ts:List (LU)):iX fmt bar ts=(pW fmt bar ts).map (kD fmt 1):=by
 unfold iX Fj pW;rw[List.map_flatMap]
theorem rp {set:List jo}(D:jc fmt bar ts=0)(H:nB fmt 1 set=0):
  jk fmt set (pW fmt bar ts)=jk 1 (set.map (lY fmt 1)) (iX fmt bar ts):=by
 obtain⟨I,_,z⟩:=zY D;unfold jk;rw[yA,List.all_map];exact yz fun d F=>by rw[Function.comp];exact Wj H (z d F)
theorem Bc (H:iY a)(z:iY b){v:BA}(R:(trans a b v).2=0)(I:(trans a 1 v).2=0):trans b 1 ⟨(trans a b v).1.toArray⟩=trans a 1 v:=by
 obtain⟨c,X,U,K,O⟩:=oT H z R;obtain⟨d,_,D,M,V⟩:=oT H (.inl rfl) I;rw[U] at D;injection D with D;subst D;have k:=ol z K;have J:=(kB z k).1;rw[iS] at J;have F:=KE z J K rfl;have e:trans a 1 v=(gH 1 c,0):=by rw[<-V,<-I]
 rw[e,O,Oj];unfold trans;rw[if_neg (by rintro(x | x);exact x z;exact x (.inl rfl)),if_neg (by rw[k];simp),iS,F];simp only;unfold vq;rw[if_pos M]
theorem FU {x:jo}(h:qD a b x=0):uf x.nm x.gives=true/\(trans a b x.ver).2=0/\∀ y∈x.gives,y.op=3/\(trans a b y.ver).2=0:=by
 unfold qD at h;split at h
 ·cases h
 ·rename_i M;split at h
  ·cases h
  ·rename_i F;split at h
   ·cases h
   ·rename_i D;refine⟨by simpa using M,by simpa using F,fun y I=>?_⟩;have J:(x.gives.all fun g=>decide (EC a b g=0))=true:=by simpa using D
    have z:=dO (List.all_eq_true.1 J y I);unfold EC at z;split at z
    ·cases z
    ·rename_i K;split at z
     ·cases z
     ·rename_i H;exact⟨Decidable.not_not.1 K,by simpa using H⟩
theorem Ln {x:jo}(J:uf x.nm x.gives=true)(I:(trans a b x.ver).2=0)(F:∀ y∈x.gives,y.op=3/\(trans a b y.ver).2=0):qD a b x=0:=by
 unfold qD;rw[if_neg (by rw[J];simp),if_neg (by rw[I];simp),if_neg];have:(x.gives.all fun g=>decide (EC a b g=0))=true:=by
  rw[List.all_eq_true];intro y H;obtain⟨z,D⟩:=F y H;refine dT ?_;unfold EC;rw[if_neg (by rw[z];simp),if_neg (by rw[D];simp)]
 rw[this];simp
theorem Ol (a b:Int)(x:jo):uf (lY a b x).nm (lY a b x).gives=uf x.nm x.gives:=by
 unfold uf lY;simp only;rw[List.all_map];rfl
theorem FV (J:iY a)(O:iY b){x:jo}(Y:qD a b x=0)(X:qD a 1 x=0):lY b 1 (lY a b x)=lY a 1 x/\qD b 1 (lY a b x)=0:=by
 obtain⟨V,Z,U⟩:=FU Y;obtain⟨_,K,I⟩:=FU X;have H:=Bc J O Z K;have M:∀ y∈x.gives,trans b 1 (po a b y).ver=trans a 1 y.ver:=fun y D=>Bc J O (U y D).2 (I y D).2;constructor
 ·unfold lY;simp only;rw[H,List.map_map];congr 1;apply List.map_congr_left;intro y D;show po b 1 (po a b y)=po a 1 y;have F:=M y D;unfold po at F |-;simp only at F |-;rw[F]
 ·refine Ln (by rw[Ol];exact V) ?_ ?_
  ·have:(lY a b x).ver=⟨(trans a b x.ver).1.toArray⟩:=rfl;rw[this,H];exact K
  ·intro y D;obtain⟨z,R,rfl⟩:=List.mem_map.1 D;exact⟨rfl,by rw[M z R];exact(I z R).2⟩
theorem FW {f:jo->Int}{l:List jo}(h:∀ x∈l,f x=0):zw f l=0:=AM h
theorem Om {set:List jo}(M:nB a b set=0)(K:nB a 1 set=0):(set.map (lY a b)).map (lY b 1)=set.map (lY a 1)/\nB b 1 (set.map (lY a b))=0:=by
 obtain⟨I,D,F⟩:=wK M;obtain⟨_,_,H⟩:=wK K;constructor
 ·rw[List.map_map];exact List.map_congr_left fun x z=>(FV I D (F x z) (H x z)).1
 ·unfold nB;rw[if_neg (by rintro(x | x);exact x D;exact x (.inl rfl))];apply FW;intro x z;obtain⟨y,J,rfl⟩:=List.mem_map.1 z;exact(FV I D (F y J) (H y J)).2
theorem wL {set:List jo}(h:nB a b set=0):zy a b set=set.map (lY a b):=by unfold zy;rw[if_pos h]
theorem Jy (fmt:Int)(set:List jo)(l m:List gI):jk fmt set (l++m)=(jk fmt set l&&jk fmt set m):=by unfold jk;rw[List.all_append]
theorem Rv (fmt f:Int)(set:List jo)(l:List gI):jk f set (up fmt l)=jk f set l:=by
 unfold up jk;split
 ·rfl
 ·rw[List.all_append,bI,Bool.and_eq_true,List.all_eq_true,List.all_eq_true,List.all_eq_true];unfold iJ;constructor
  ·rintro⟨h1,h2⟩ x z;cases hb:x.bar
   ·exact h1 x (List.mem_filter.2 ⟨z,by rw[hb];rfl⟩)
   ·exact h2 x (List.mem_filter.2 ⟨z,by rw[hb];rfl⟩)
  ·intro h;exact⟨fun x z=>h x (List.mem_filter.1 z).1,fun x z=>h x (List.mem_filter.1 z).1⟩
theorem Zj {set:List jo}{ns bs:List (LU)}(M:jc a false ns=0)(K:jc a true bs=0)(F:nB a b set=0)(z:nB a 1 set=0)(O:wQ b (iX a false ns++iX a true bs)=0):
  (jk a set (pW a false ns)&&jk a set (pW a true bs))=jk 1 (zy a 1 set) (iX a false ns++iX a true bs) /\
  (jk b (zy a b set) (pW b false (wD b false (iX a false ns++iX a true bs)))&&jk b (zy a b set) (pW b true (wD b true (iX a false ns++iX a true bs))))=jk 1 (zy a 1 set) (iX a false ns++iX a true bs):=by
 obtain⟨R,D⟩:=Om F z;obtain⟨H,I,J⟩:=Fo O;rw[wL F,wL z];constructor
 ·rw[rp M z,rp K z,Jy]
 ·rw[rp H D,rp I D,R,<-Jy,J,Rv]
theorem Zk {l:List gI}(h:wQ fmt l=0):∀ d∈l,∀ g∈d.alts,0<=g.op/\g.op<=5:=by
 unfold wQ at h;split at h
 ·cases h
 ·split at h
  ·rename_i z;exact absurd h z
  ·rename_i z;have z:ni l=0:=by simpa using z
   unfold ni at z;split at z
   ·cases z
   ·intro d H g I;have D:=gD.1 z d H;unfold um at D;split at D
    ·cases D
    ·have F:=gD.1 D g I;exact⟨(wE F).op0,(wE F).op5⟩
inductive mQ.nes:mQ->Prop
 | atom (nm:LU) (op:Nat) (v:LU):nes (.atom nm op v)
 | node (op:LU) (ks:List mQ) (h:ks≠[]) (hk:∀ k∈ks,nes k):nes (.node op ks)
theorem Wk {t:mQ}{r:LU×Nat}(h:mu n l=some (t,r)):t.nes:=by
 unfold mu at h;split at h
 ·cases h
 ·split at h
  ·unfold qy at h;split at h
   ·injection h with h;injection h with h _;rw[<-h];exact .atom _ _ _
   ·unfold pC at h;split at h
    ·cases h
    ·split at h
     ·injection h with h;injection h with h _;rw[<-h];exact .atom _ _ _
     ·cases h
  ·cases h
theorem On:∀ f:Nat,(∀ deep n l t r,lV f deep n l=some (t,r)->t.nes)/\(∀ deep n acc op l t r,(∀ k∈acc,mQ.nes k)->nK f deep n acc op l=some (t,r)->t.nes)
 | 0=>⟨fun _ _ _ _ _ h=>by simp[lV] at h,fun _ _ _ _ _ _ _ _ h=>by simp[nK] at h⟩
 | f+1=>by
  obtain⟨K,H⟩:=On f;constructor
  ·intro deep n l t r h;unfold lV at h;split at h
   ·cases h
   ·split at h
    ·split at h
     ·cases h
     ·exact H _ _ _ _ _ _ _ (fun k F=>by simp at F) h
    ·exact Wk h
  ·intro deep n acc op l t r J h;unfold nK at h;split at h
   ·cases h
   ·rename_i k M O I;have F:=K _ _ _ _ _ I;have z:∀ x∈acc++[k],mQ.nes x:=by
     intro x D;rcases List.mem_append.1 D with D | D
     ·exact J x D
     ·rw[List.mem_singleton.1 D];exact F
    split at h
    ·injection h with h;injection h with h _;rw[<-h];exact .node _ _ (by simp) z
    ·split at h
     ·exact H _ _ _ _ _ _ _ z h
     ·cases h
theorem Rw {t:mQ}(h:jt l=some t):t.nes:=by
 unfold jt at h;split at h
 ·cases h
 ·rename_i z;split at h
  ·injection h with h;rw[<-h];exact(On _).1 _ _ _ _ _ z
  ·cases h
theorem Zl {p:mQ}(h:p.nes):vM p≠[]:=by
 cases h with
 | atom=>simp[vM]
 | node op ks hk _=>
  show(if op=kT then ks else [.node op ks])≠[];by_cases e:op=kT
  ·rw[if_pos e];exact hk
  ·rw[if_neg e];simp
theorem Wl {p:mQ}(h:p.nes):∀ q∈uo p,q.nes:=by
 cases h with
 | atom nm op v=>intro q z;simp[uo] at z;rw[z];exact .atom _ _ _
 | node op ks hk hks=>
  intro q z
  replace z:q∈(if op=lh then ks else [.node op ks]):=z
  by_cases e:op=lh
  ·rw[if_pos e] at z;exact hks q z
  ·rw[if_neg e] at z;rw[List.mem_singleton.1 z];exact .node _ _ hk hks
theorem abd (J:iY fmt){s:LU}(M:s.length<=1000000)(h:(ip fmt bar s).2=0):∀ d∈(ip fmt bar s).1,d.alts≠[]:=by
 rcases J with rfl | rfl | rfl
 ·cases hd:jV s with
  | none=>rw[La hd] at h;cases h
  | some L=>
   have O:=sO hd M;rw[Rc hd] at h |-;unfold vL at h |-;split at h
   ·cases h
   ·rename_i D;rw[if_neg D];intro d z;obtain⟨g,F,rfl⟩:=List.mem_map.1 z;simpa using O.ne g F
 ·cases hd:jt s with
  | none=>rw[Lb hd] at h;cases h
  | some t=>
   have R:=Rw hd;rw[Re hd] at h |-;unfold qI at h |-;by_cases D:bar=true
   ·rw[if_pos D] at h |-;by_cases H:Nv t=true
    ·rw[if_pos H];intro d z;rw[List.mem_singleton.1 z];simp
    ·rw[if_neg H] at h;cases h
   ·rw[if_neg D] at h |-;split at h
    ·rename_i K;rw[if_pos K];intro d z;obtain⟨p,I,rfl⟩:=List.mem_map.1 z;simpa using Zl (Wl R p I)
    ·cases h
 ·cases hd:jL s with
  | none=>rw[Lc hd] at h;cases h
  | some L=>
   rw[Rf hd] at h |-;unfold vN at h |-;split at h
   ·cases h
   ·rename_i D;rw[if_neg D];intro d z;obtain⟨g,F,rfl⟩:=List.mem_map.1 z;simp
theorem Bd {g:fP}(h:(gz a b g).2=0):(gz a b g).1.nm.size<=64/\(gz a b g).1.ver.size<=64/\(gz a b g).1.op=g.op:=by
 have F:hH (bl g.nm)=true:=by
  cases hd:hH (bl g.nm)
  ·unfold gz at h;rw[if_pos hd] at h;cases h
  ·rfl
 have z:=(sh F).2;rw[fI] at z;rcases tp h with⟨D,e⟩ | ⟨D,ht,e⟩
 ·rw[e];exact⟨z,by show(⟨#[]⟩:BA).size<=64;decide,D.symm⟩
 ·rw[e];refine⟨z,?_,rfl⟩;have:=Nn (a:=a) (b:=b) (s:=g.ver);show(⟨(trans a b g.ver).1.toArray⟩:BA).size<=64;rw[Oj,iB];exact this
theorem Oo (h:jc fmt bar ts=0)(V:∀ s∈ts,s.length<=1000000):(iX fmt bar ts).length<=64/\∀ d∈iX fmt bar ts,d.alts.length<=64/\∀ g∈d.alts,g.nm.size<=64/\g.ver.size<=64:=by
 obtain⟨J,U,M⟩:=zY h;have K:gB (iX fmt bar ts)<=64:=by
  unfold jc at h;rw[if_neg (fun Y=>Y J)] at h;split at h
  ·rename_i R;exact absurd h R
  ·split at h
   ·cases h
   ·omega
 have F:∀ d∈iX fmt bar ts,d.alts≠[]:=by
  intro d z;rw[yA] at z;obtain⟨x,H,rfl⟩:=List.mem_map.1 z;obtain⟨s,D,I⟩:=List.mem_flatMap.1 H;have:=abd J (V s D) (U s D) x I;unfold kD;simpa using this
 refine⟨Nat.le_trans (qf F) K,fun d z=>⟨Nat.le_trans (uq z) K,fun g X=>?_⟩⟩;rw[yA] at z;obtain⟨x,H,rfl⟩:=List.mem_map.1 z;obtain⟨y,O,rfl⟩:=List.mem_map.1 X;have:=Bd (M x H y O);exact⟨this.1,this.2.1⟩
end
section
open Go.RowKit
structure uA (a b:Int) (kn:List jH) (p:fZ):Prop where
 deps:qL a b p
 gives:∀ g∈p.gives,qM a b g
 files:∀ f∈p.files,oo a b kn f
 scripts:∀ s∈p.scripts,zk b s.phase=true
theorem abe {kn:List jH}{p:fZ}:pD a b kn p↔(trans a b p.ver).2=0/\uA a b kn p:=
 ⟨fun h=>⟨h.1,h.2,h.3,h.4,h.5⟩,fun h=>⟨h.1,h.2.1,h.2.2,h.2.3,h.2.4⟩⟩
def yB:BA:=⟨#[118,101,114,115,105,111,110]⟩
def pt (a b:Int)(p:fZ):List iA:=if (trans a b p.ver).2=0 then [] else [⟨p.nm,yB,11⟩]
theorem Jz {p:fZ}:pt a b p=[]↔(trans a b p.ver).2=0:=by
 unfold pt;split
 ·simp_all
 ·simp_all
theorem Oq (a b:Int)(p:fZ):(pt a b p).length<=1:=by unfold pt;split<;>simp
def Ot (T:Nat->Prop)(kb et:Nat)(a b:Int)(kn:List jH)(ms:List oq)(R0:List iA)(p:fZ)(w:World)(e:Ending)(w':World):Prop:=
 ∃ (v:Value) (q:fZ) (bs:List iA),e=.returned q.val/\CvE T w w' kb et a b ms v (R0++(pt a b p++bs)) q/\(bs=[]↔uA a b kn p)/\bs.length<=600/\((trans a b p.ver).2=0->bs=[]->BP a b kn p q)
def fZ.setVer (p:fZ)(s:BA):fZ:=⟨p.nm,s,p.ar,p.sm,p.na,p.nc,p.needs,p.ba,p.bc,p.bars,p.ga,p.gc,p.gives,p.fa,p.fc,p.files,p.sa,p.sc,p.scripts⟩
def fZ.setAr (p:fZ)(s:BA):fZ:=⟨p.nm,p.ver,s,p.sm,p.na,p.nc,p.needs,p.ba,p.bc,p.bars,p.ga,p.gc,p.gives,p.fa,p.fc,p.files,p.sa,p.sc,p.scripts⟩
def fZ.setNeeds (p:fZ)(A:OA)(c:Nat)(l:List BA):fZ:=⟨p.nm,p.ver,p.ar,p.sm,A,c,l,p.ba,p.bc,p.bars,p.ga,p.gc,p.gives,p.fa,p.fc,p.files,p.sa,p.sc,p.scripts⟩
def fZ.setBars (p:fZ)(A:OA)(c:Nat)(l:List BA):fZ:=⟨p.nm,p.ver,p.ar,p.sm,p.na,p.nc,p.needs,A,c,l,p.ga,p.gc,p.gives,p.fa,p.fc,p.files,p.sa,p.sc,p.scripts⟩
section
variable {T : Nat -> Prop} {w wr : World} {kb et : Nat} {a b : Int} {ms : List oq} {v : Value} {R : List iA} {q : fZ}
theorem jK.putVer (h:jK T w wr kb et a b ms v R q)(s:BA):jK T w (wr.setCell ⟨w.heap.size+1,1,none⟩ (.string s)) kb et a b ms v R (q.setVer s):=
 h.put 1 (by decide) (.string s) (q.setVer s) rfl ⟨h.own.1,h.own.2,h.own.3,h.own.4,h.own.5⟩ rfl rfl (fun j g z=>h.fr j g (by match j,z with | 0,z=>exact z | 1,z=>exact z | 2,z=>exact z | 3,z=>exact z | j+4,z=>exact z))
theorem jK.putAr (h:jK T w wr kb et a b ms v R q)(s:BA):jK T w (wr.setCell ⟨w.heap.size+1,2,none⟩ (.string s)) kb et a b ms v R (q.setAr s):=
 h.put 2 (by decide) (.string s) (q.setAr s) rfl ⟨h.own.1,h.own.2,h.own.3,h.own.4,h.own.5⟩ rfl rfl (fun j g z=>h.fr j g (by match j,z with | 0,z=>exact z | 1,z=>exact z | 2,z=>exact z | 3,z=>exact z | j+4,z=>exact z))
theorem jK.putNeeds (h:jK T w wr kb et a b ms v R q){l:List BA}(D:pE (w.heap.size+3) wr A c l):jK T w (wr.setCell ⟨w.heap.size+1,4,none⟩ (.slice A l.length c)) kb et a b ms v R (q.setNeeds A c l):=by
 have F:=h.lt;refine h.put 4 (by decide) (.slice A l.length c) (q.setNeeds A c l) rfl ⟨D.mono (by omega),h.own.2,h.own.3,h.own.4,h.own.5⟩ rfl rfl (fun j g z=>?_)
 match j,z with
 | 0,z=>have:=(World.ownsRow.lt D g z).1;right;omega
 | 1,z=>exact h.fr 1 g z
 | 2,z=>exact h.fr 2 g z
 | 3,z=>exact h.fr 3 g z
 | j+4,z=>exact h.fr (j+4) g z
theorem jK.putBars (h:jK T w wr kb et a b ms v R q){l:List BA}(D:pE (w.heap.size+3) wr A c l):jK T w (wr.setCell ⟨w.heap.size+1,5,none⟩ (.slice A l.length c)) kb et a b ms v R (q.setBars A c l):=by
 have F:=h.lt;refine h.put 5 (by decide) (.slice A l.length c) (q.setBars A c l) rfl ⟨h.own.1,D.mono (by omega),h.own.3,h.own.4,h.own.5⟩ rfl rfl (fun j g z=>?_)
 match j,z with
 | 0,z=>exact h.fr 0 g z
 | 1,z=>have:=(World.ownsRow.lt D g z).1;right;omega
 | 2,z=>exact h.fr 2 g z
 | 3,z=>exact h.fr 3 g z
 | j+4,z=>exact h.fr (j+4) g z
theorem pE.set {cc:Nat}{l:List BA}(z:pE B wr A cc l)(D:c<B)(j:Nat)(u:Value):pE B (wr.setCell ⟨c,j,none⟩ u) A cc l:=
 il z (fX (World.grownBy.refl wr _) (.inl rfl) u) (fun e=>by have:=(World.ownsRow.lt z c e).1;omega)
theorem jK.dep {u:Value}{xs:LV}(h:jK T w wr kb et a b ms v R q)(D:wr.ownsRow B 75 2 u n xs)(J:w.heap.size+2<B)(z:wr.grownBy w' u.ownBlock):jK T w w' kb et a b ms v R q:=by
 have F:∀ g,u.ownBlock=some g->w.heap.size+2<g:=fun g z=>by have:=(D.lt g z).1;omega
 have H:=h.lt;have I:=h.ml;have far:∀ c,c<=w.heap.size+2->some c≠u.ownBlock:=fun c K e=>by have:=F c e.symm;omega
 exact⟨h.kp.grown z (fun g z=>by have:=F g z;right;omega),h.lt,h.ml,h.tl,h.tk,h.tv,h.tg,h.tf,h.fr,h.kv.grownQ z (far _ (by omega)),gN h.rf D (by decide) z,h.box.grownQ z (far _ (by omega)),h.pk.grownQ z (far _ (by omega)),h.res.grownQ z (far _ (by omega)),h.mp.block (z.block et h.mp.lt (far _ (by omega))),
  ⟨gN h.own.1 D (by decide) z,gN h.own.2 D (by decide) z,gN h.own.3 D (by decide) z,gN h.own.4 D (by decide) z,gN h.own.5 D (by decide) z⟩⟩
end
structure StD (a b:Int) (p q:fZ) (bs:List iA):Prop where
 nm:q.nm=p.nm
 ver:q.ver=gX (trans a b p.ver).1
 ar:q.ar=p.ar
 sm:q.sm=p.sm
 ga:q.ga=p.ga
 gc:q.gc=p.gc
 gives:q.gives=p.gives
 fa:q.fa=p.fa
 fc:q.fc=p.fc
 files:q.files=p.files
 sa:q.sa=p.sa
 sc:q.sc=p.sc
 scripts:q.scripts=p.scripts
 ok:bs=[]↔qL a b p
 few:bs.length<=3
 txt:bs=[]->q.needs.map bl=wD b false (kr a p)/\q.bars.map bl=wD b true (kr a p)
def lR (a b:Int)(l:List fP)(k:Nat):List fP:=(l.take k).map (po a b)++l.drop k
theorem Zm {l:List fP}{x:fP}(z:l[k]?=some x):(lR a b l k)[k]?=some x:=by
 unfold lR;have D:=(gS z).1;rw[List.getElem?_append_right (by rw[List.length_map,List.length_take];omega),List.length_map,List.length_take,List.getElem?_drop,show k+(k-min k l.length)=k by omega];exact z
theorem Wm (a b:Int)(l:List fP)(z:k<=l.length):(lR a b l k).length=l.length:=by
 unfold lR;rw[List.length_append,List.length_map,List.length_take,List.length_drop];omega
theorem Rx {l:List fP}{x:fP}(z:l[k]?=some x)(H:x.op=3):(lR a b l k).set k ⟨x.nm,x.op,⟨(trans a b x.ver).1.toArray⟩⟩=lR a b l (k+1):=by
 unfold lR;have F:=(gS z).1;have D:l.drop k=x::l.drop (k+1):=by rw[List.drop_eq_getElem_cons F];congr 1;exact(gS z).2
 rw[List.set_append_right _ _ (by rw[List.length_map,List.length_take];omega),List.length_map,List.length_take,show k-min k l.length=0 by omega,D,List.set_cons_zero,gC z,List.map_append,List.append_assoc,H];rfl
theorem Wn (a b:Int)(l:List fP):lR a b l l.length=l.map (po a b):=by unfold lR;simp
theorem Wo {p:fZ}{x y:List fQ}(D:x.map fQ.pl=iX a false (p.needs.map bl))(z:y.map fQ.pl=iX a true (p.bars.map bl)):(x++y).map fQ.pl=kr a p:=by
 rw[List.map_append,D,z];rfl
theorem Wp {p:fZ}{x y:List fQ}(Y:jc a false (p.needs.map bl)=0)(X:jc a true (p.bars.map bl)=0)(U:x.map fQ.pl=iX a false (p.needs.map bl))(O:y.map fQ.pl=iX a true (p.bars.map bl))(K:∀ s∈p.needs,s.size<=1000000)(M:∀ s∈p.bars,s.size<=1000000):
  x.length<=64/\y.length<=64/\Le (x++y):=by
 have key:∀ (l:List BA),(∀ s∈l,s.size<=1000000)->∀ s∈l.map bl,s.length<=1000000:=by
  intro l hl s hs;obtain⟨z,Z,rfl⟩:=List.mem_map.1 hs;rw[fI];exact hl z Z
 have R:=Oo Y (key _ K);have V:=Oo X (key _ M);have F:x.length<=64:=by have:=congrArg List.length U;rw[List.length_map] at this;have:=R.1;omega
 have I:y.length<=64:=by have:=congrArg List.length O;rw[List.length_map] at this;have:=V.1;omega
 have J:∀ d∈x++y,d.alts.length<=64/\∀ g∈d.alts,g.nm.size<=64/\g.ver.size<=64:=by
  intro d D;rcases List.mem_append.1 D with D | D
  ·exact R.2 d.pl (by rw[<-U];exact List.mem_map.2 ⟨d,D,rfl⟩)
  ·exact V.2 d.pl (by rw[<-O];exact List.mem_map.2 ⟨d,D,rfl⟩)
 exact⟨F,I,by rw[List.length_append];omega,fun d D=>by have:=(J d D).1;omega,fun d D g H=>by have:=((J d D).2 g H).1;omega,fun d D g H=>by have:=((J d D).2 g H).2;omega⟩
theorem Zn {wa wb:World}{x y:List fQ}{n1 n2:Nat}(D:nu wa wr x A1 n1 c1)(F:nu wb wr y A2 n2 c2)(I:w'.ownsRow wa.heap.size 75 2 (.slice A (n1+n2) c) (n1+n2) (x.flatMap fQ.cells++y.flatMap fQ.cells))(H:wr.grownBy w' (Value.slice A1 n1 c1).ownBlock):rE w' A (x++y):=by
 refine⟨?_,fun d z=>?_⟩
 ·have:=gR I;rw[List.flatMap_append,List.length_append,D.len,F.len];exact this
 ·rcases List.mem_append.1 z with z | z
  ·exact gR (gN (D.al d z) D.row (by decide) H)
  ·exact gR (gN (F.al d z) D.row (by decide) H)
theorem StD.none {p:fZ}{bs:List iA}(z:bs≠[])(F:¬ qL a b p)(D:bs.length<=3):StD a b p (p.setVer (gX (trans a b p.ver).1)) bs:=
 ⟨rfl,rfl,rfl,rfl,rfl,rfl,rfl,rfl,rfl,rfl,rfl,rfl,rfl,⟨fun e=>absurd e z,fun h=>absurd h F⟩,D,fun e=>absurd e z⟩
theorem StD.some {p:fZ}{bs:List iA}{ns ms:List BA}(ok:bs=[]↔qL a b p)(z:bs.length<=3)(ht:bs=[]->ns.map bl=wD b false (kr a p)/\ms.map bl=wD b true (kr a p)):StD a b p (((p.setVer (gX (trans a b p.ver).1)).setNeeds A1 c1 ns).setBars A2 c2 ms) bs:=
 ⟨rfl,rfl,rfl,rfl,rfl,rfl,rfl,rfl,rfl,rfl,rfl,rfl,rfl,ok,z,ht⟩
end
section
open Go.RowKit
theorem abf {ms:List oq}{R0:List iA}{p:fZ}(F:FX w f)(Y:∀ {wr:World}{v:Value}{R:List iA}{q:fZ},jK T w wr kb et a b ms v R q->yM wr)(hA:p.able)(O:R0.length<=500000)(hB:jK T w W kb et a b ms v R0 p)
  (hQ:∀ (g:Nat->Value)(wx:World),FX w g->((g 6)=.int .i64 (trans a b p.ver).2/\jK T w wx kb et a b ms v R0 (p.setVer (gX (trans a b p.ver).1)))->Q .normal ⟨FR g,[]⟩ wx):
  Code.wp prog (cd [1,1,1,0,0]) Q ⟨FR f,[]⟩ W:=by
 have HQ:=fH hQ;clear hQ;obtain⟨V,hV⟩:∃ V:BA,(⟨(trans a b p.ver).1.toArray⟩:BA)=V:=⟨_,rfl⟩
 obtain⟨ec,I⟩:∃ ec:Int,(trans a b p.ver).2=ec:=⟨_,rfl⟩
 have HV:=fH hV;have aa:=fH I;have HT:=fH fun W hg=>qG a b p.ver W hg (by have:=hA.small.ver;omega);rw[show ul (trans a b p.ver)=.tuple #[.string V,.int .i64 ec] by rw[<-hV,<-I];rfl] at HT;have GB:Hid (∀ {wr:World} {v:Value} {R:List iA} {q:fZ},jK T w wr kb et a b ms v R q->yM wr):=Y;have J:=fH hB;have ab:=fH O;obtain⟨W3,U⟩:∃ W3,W=W3:=⟨_,rfl⟩
 rw[U] at J |-;clear Y hB hA O hV I U;obtain⟨F2,F3,F4,F5⟩:=F;unfold FR;rw[F2,F3,F4,F5];clear F2 F3 F4 F5;refine wp_mono (Q:=Exit.then (fun a w=>Q .normal a w) fun _ _ _=>False) ?_ (fun e a w h=>by cases e<;>first | exact h | exact h.elim)
 conv=>arg 2;whnf
 have c0:=J.box.cell 0 _ rfl;have k0:=J.kv.cell 0 _ rfl;have k1:=J.kv.cell 1 _ rfl;have p1:=J.pk.cell 1 _ rfl;go_upto_region 3 with(fail)
 refine wp_region_held_drew (S:=fun z=>z.cell? ⟨w.heap.size,0,none⟩=some (.pointer (some ⟨kb,0,none⟩))/\z.cell? ⟨kb,0,none⟩=some (.int .i64 a)/\z.cell? ⟨kb,1,none⟩=some (.int .i64 b)) (by kernel_rfl) ?_ (fun D=>?_)
 ·exact⟨c0,k0,k1⟩
 refine' wpAnyH_take (i:=0) (oi:=_) (v:=_) rfl (by kernel_rfl) (by kernel_rfl) (by kernel_rfl) (fun _ _ _ h=>h) (Or.inl ⟨by rfl,?hy1⟩) (by assumption) ?rr1
 case hy1=>(intro z hSw;(try dsimp only at hSw);go_simp;try (with_reducible rfl))
 (try simp only[Act.put,sA,sB,sC])
 refine' wpAnyH_take (i:=1) (oi:=_) (v:=_) rfl (by kernel_rfl) (by kernel_rfl) (by kernel_rfl) (fun _ _ _ h=>h) (Or.inl ⟨by rfl,?hy2⟩) (by assumption) ?rr2
 case hy2=>(intro z hSw;(try dsimp only at hSw);go_simp;try (with_reducible rfl))
 (try simp only[Act.put,sA,sB,sC])
 refine' wpAnyH_take (i:=2) (oi:=_) (v:=_) rfl (by kernel_rfl) (by kernel_rfl) (by kernel_rfl) (fun _ _ _ h=>h) (Or.inl ⟨by rfl,?hy3⟩) (by assumption) ?rr3
 case hy3=>(intro z hSw;(try dsimp only at hSw);go_simp;try (with_reducible rfl))
 (try simp only[Act.put,sA,sB,sC])
 refine' wpAnyH_take (i:=3) (oi:=_) (v:=_) rfl (by kernel_rfl) (by kernel_rfl) (by kernel_rfl) (fun _ _ _ h=>h) (Or.inl ⟨by rfl,?hy4⟩) (by assumption) ?rr4
 case hy4=>(intro z hSw;(try dsimp only at hSw);go_simp;try (with_reducible rfl))
 (try simp only[Act.put,sA,sB,sC])
 refine' wpAnyH_take (i:=4) (oi:=_) (v:=_) rfl (by kernel_rfl) (by kernel_rfl) (by kernel_rfl) (fun _ _ _ h=>h) (Or.inl ⟨by rfl,?hy5⟩) (by assumption) ?rr5
 case hy5=>(intro z hSw;(try dsimp only at hSw);go_simp;try (with_reducible rfl))
 (try simp only[Act.put,sA,sB,sC])
 refine' wpAnyH_take (i:=5) (oi:=_) (v:=_) rfl (by kernel_rfl) (by kernel_rfl) (by kernel_rfl) (fun _ _ _ h=>h) (Or.inl ⟨by rfl,?hy6⟩) (by assumption) ?rr6
 case hy6=>(intro z hSw;(try dsimp only at hSw);go_simp;try (with_reducible rfl))
 (try simp only[Act.put,sA,sB,sC])
 refine' wpAnyH_take (i:=6) (oi:=_) (v:=_) rfl (by kernel_rfl) (by kernel_rfl) (by kernel_rfl) (fun _ _ _ h=>h) (Or.inl ⟨by rfl,?hy7⟩) (by assumption) ?rr7
 case hy7=>(intro z hSw;(try dsimp only at hSw);go_simp;try (with_reducible rfl))
 (try simp only[Act.put,sA,sB,sC])
 refine' wpAnyH_take (i:=7) (oi:=_) (v:=_) rfl (by kernel_rfl) (by kernel_rfl) (by kernel_rfl) (fun _ _ _ h=>h) (Or.inl ⟨by rfl,?hy8⟩) (by assumption) ?rr8
 case hy8=>(intro z hSw;(try dsimp only at hSw);go_simp;try (with_reducible rfl))
 (try simp only[Act.put,sA,sB,sC])
 refine' wpAnyH_take (i:=8) (oi:=_) (v:=_) rfl (by kernel_rfl) (by kernel_rfl) (by kernel_rfl) (fun _ _ _ h=>h) (Or.inl ⟨by rfl,?hy9⟩) (by assumption) ?rr9
 case hy9=>(intro z hSw;(try dsimp only at hSw);go_simp;try (with_reducible rfl))
 (try simp only[Act.put,sA,sB,sC])
 refine wpAnyH_ready (rs:=[9]) (by kernel_rfl) (by simp) ?_;refine AllReadyH.cons (o:=_) rfl (fun K H=>?_) AllReadyH.nil;go_simp;refine H _ _ ?_ (fun D=>?_)
 ·exact⟨c0,k0,k1⟩
 clear H K
 (try simp only[Act.put,sA,sB,sC])
 refine wpAnyH_ready (rs:=[10]) (by kernel_rfl) (by simp) ?_;refine AllReadyH.cons (o:=_) rfl (fun K H=>?_) AllReadyH.nil;go_simp;refine(HT _ ((GB J.drew).p)).mono ?_;rintro e w4 ⟨rfl,X⟩;have M:=fH (J.drew.step X);have Z:=fH (M.putVer V);have y1:=M.pk.cell 1 _ rfl;have g1:=M.pk.free 1 (by show 1<9;omega);go_wp2_with fail;refine H _ _ ?_ (fun D=>?_)
 ·exact⟨M.box.cell 0 _ rfl,M.kv.cell 0 _ rfl,M.kv.cell 1 _ rfl⟩
 clear H K
 (try simp only[Act.put,sA,sB,sC])
 refine' wpAnyH_take (i:=11) (oi:=_) (v:=_) rfl (by kernel_rfl) (by kernel_rfl) (by kernel_rfl) (fun _ _ _ h=>h) (Or.inl ⟨by rfl,?hy11⟩) (by assumption) ?rr11
 case hy11=>(intro z hSw;(try dsimp only at hSw);go_simp;try (with_reducible rfl))
 (try simp only[Act.put,sA,sB,sC])
 refine' wpAnyH_take (i:=12) (oi:=_) (v:=_) rfl (by kernel_rfl) (by kernel_rfl) (by kernel_rfl) (fun _ _ _ h=>h) (Or.inl ⟨by rfl,?hy12⟩) (by assumption) ?rr12
 case hy12=>(intro z hSw;(try dsimp only at hSw);go_simp;try (with_reducible rfl))
 (try simp only[Act.put,sA,sB,sC])
 refine' wpAnyH_take (i:=13) (oi:=_) (v:=_) rfl (by kernel_rfl) (by kernel_rfl) (by kernel_rfl) (fun _ _ _ h=>h) (Or.inl ⟨by rfl,?hy13⟩) (by assumption) ?rr13
 case hy13=>(intro z hSw;(try dsimp only at hSw);go_simp;try (with_reducible rfl))
 (try simp only[Act.put,sA,sB,sC])
 refine' wpAnyH_take (i:=14) (oi:=_) (v:=_) rfl (by kernel_rfl) (by kernel_rfl) (by kernel_rfl) (fun _ _ _ h=>h) (Or.inl ⟨by rfl,?hy10⟩) (by assumption) ?rr10
 case hy10=>(intro z hSw;(try dsimp only at hSw);go_simp;try (with_reducible rfl))
 (try simp only[Act.put,sA,sB,sC])
 refine wpAnyH_ready (rs:=[15]) (by kernel_rfl) (by simp) ?_;refine AllReadyH.cons (o:=_) rfl (fun K H=>?_) AllReadyH.nil;go_simp;refine H _ _ ?_ (fun D=>?_)
 ·exact⟨Z.box.cell 0 _ rfl,Z.kv.cell 0 _ rfl,Z.kv.cell 1 _ rfl⟩
 clear H K
 (try simp only[Act.put,sA,sB,sC])
 refine' wpAnyH_take (i:=16) (oi:={ dst:=some 6,op:=Op.assign (Operand.tmp 34),type:=45,pos:=_,after:=_,guard:=none }) (v:=_) rfl (by kernel_rfl) (by kernel_rfl) (by kernel_rfl) (fun _ _ _ h=>h) (Or.inl ⟨by rfl,?hy14⟩) (by assumption) ?rr14
 case hy14=>(intro z hSw;(try dsimp only at hSw);go_simp;try (with_reducible rfl))
 (try simp only[Act.put,sA,sB,sC])
 refine wpAnyH_done (by kernel_rfl) ?_ _
 (try simp only[Act.put,sA,sB,sC,List.set])
 clear c0 k0 k1 p1 y1 g1 X;go_wp2_with fail;refine jZ ?_;exact HQ.out _ _ ⟨rfl,rfl,rfl,rfl⟩ ⟨by rw[aa.out];rfl,by rw[show gX (trans a b p.ver).1=V from HV.out];exact Z.out⟩
theorem abg {ms:List oq}{R0:List iA}{p:fZ}(F:FX w f)(F6:f 6=.int .i64 ec)(J:(trans a b p.ver).2=ec)(H:R0.length<=500000)(hB:jK T w W kb et a b ms v R0 (p.setVer (gX (trans a b p.ver).1)))
  (V:∀ (g:Nat->Value)(wx:World),FX w g->(∃ v5,jK T w wx kb et a b ms v5 (R0++pt a b p) (p.setVer (gX (trans a b p.ver).1)))->Q .normal ⟨FR g,[]⟩ wx):
  Code.wp prog (cd [1,1,1,0,1]) Q ⟨FR f,[]⟩ W:=by
 have Y:=fH V;clear V;have R:=fH hB;have K:=fH H;have I:=fH J;obtain⟨M,D⟩:∃ M,W=M:=⟨_,rfl⟩
 rw[D] at R |-;clear hB H J D;obtain⟨X,F3,F4,Z⟩:=F;unfold FR;rw[X,F3,F4,Z,F6];clear X F3 F4 Z
 conv=>arg 2;whnf
 by_cases z:ec=0
 ·have q:(ec != 0)=false:=by simp[z]
  have E:pt a b p=[]:=Jz.2 (I.out.trans z);have U:Hid (jK T w M kb et a b ms v (R0++pt a b p) (p.setVer (gX (trans a b p.ver).1))):=by show jK _ _ _ _ _ _ _ _ _ _ _;rw[E,List.append_nil];exact R.out
  clear z E;go_wp2_with fail;refine jZ ?_;exact Y.out _ _ ⟨rfl,rfl,rfl,rfl⟩ ⟨v,U⟩
 ·have q:(ec != 0)=true:=by simpa [bne] using z
  have E:Hid (pt a b p=[⟨p.nm,yB,11⟩]):=by show _=_;unfold pt;rw[if_neg (by rw[I.out];exact z)]
  clear z;go_wp2_with fail;refine(oU R (by have:=K.out;omega) p.nm yB 11 rfl).mono ?_;rintro e w6 ⟨rfl,v6,O⟩;rw[<-E.out] at O;have U:=fH O;clear O;go_wp2_with fail;refine jZ ?_;exact Y.out _ _ ⟨rfl,rfl,rfl,rfl⟩ ⟨v6,U⟩
def Zp (a:Int)(bar:Bool)(ts:List (LU))(w wx:World)(ds:List fQ)(A:OA)(n c:Nat)(code:Int):Prop:=
 if jc a bar ts=0 then code=0/\ds.map fQ.pl=iX a bar ts/\∃ wb,w.heap.size+2<wb.heap.size/\nu wb wx ds A n c else code≠0
theorem abh {ms:List oq}{R:List iA}{p:fZ}(F:FX w f)(M:∀ {wr:World}{v:Value}{R:List iA}{q:fZ},jK T w wr kb et a b ms v R q->yM wr)(hA:p.able)(hB:jK T w W kb et a b ms v R (p.setVer V))
  (hQ:∀ (g:Nat->Value)(wx:World),FX w g->(∃ (A:OA)(n c:Nat)(ds:List fQ)(code:Int),(g 7)=.slice A n c/\(g 8)=.int .i64 code/\jK T w wx kb et a b ms v R (p.setVer V)/\Bw W wx/\Zp a false (p.needs.map bl) w wx ds A n c code)->Q .normal ⟨FR g,[]⟩ wx):
  Code.wp prog (cd [1,1,1,1,0]) Q ⟨FR f,[]⟩ W:=by
 have HQ:=fH hQ;clear hQ;have GB:Hid (∀ {wr:World} {v:Value} {R:List iA} {q:fZ},jK T w wr kb et a b ms v R q->yM wr):=M;have z:=fH hB;have HS:=fH hA;obtain⟨U,I⟩:∃ U,W=U:=⟨_,rfl⟩
 rw[I] at z HQ |-;clear M hB hA I;obtain⟨F2,F3,F4,F5⟩:=F;unfold FR;rw[F2,F3,F4,F5];clear F2 F3 F4 F5
 conv=>arg 2;whnf
 have c0:=z.box.cell 0 _ rfl;have k0:=z.kv.cell 0 _ rfl;have p4:=z.pk.cell 4 _ rfl
 go_region_held3 (fun X=>X.cell? ⟨w.heap.size,0,none⟩=some (.pointer (some ⟨kb,0,none⟩))/\X.cell? ⟨kb,0,none⟩=some (.int .i64 a)/\X.cell? ⟨w.heap.size+1,4,none⟩=some (.slice p.na p.needs.length p.nc))
  (first
    | exact⟨c0,k0,p4⟩
    | exact⟨O.box.cell 0 _ rfl,O.kv.cell 0 _ rfl,O.pk.cell 4 _ rfl⟩
    | go_keep)
  (first
    | (go_at_call 27;refine(Ji a false p.na p.nc p.needs _ (GB z.drew) (gR z.drew.own.needs) HS.needs HS.small.needs_).mono ?_;rintro e w7 ⟨A7,n7,c7,Y,D,rfl,H,K⟩
       have O:=fH (z.drew.step H);have aa:=fH H;have ab:=fH K;clear K))
 all_goals
  clear c0 k0 p4 H;go_wp2_with fail;refine jZ ?_;refine HQ _ _ ⟨rfl,rfl,rfl,rfl⟩ ⟨A7,n7,c7,Y,D,rfl,rfl,O,(Below.refl _ U).drew.trans aa.out,?_⟩;have J:=ab.out;show if _ then _ else _
  split at J
  ·rename_i Z;rw[if_pos Z];exact⟨J.1,J.2.1,U.drew,z.res.sz,J.2.2⟩
  ·rename_i Z;rw[if_neg Z];exact J.1
theorem abi {ms:List oq}{R:List iA}{p:fZ}(F:FX w f)(M:∀ {wr:World}{v:Value}{R:List iA}{q:fZ},jK T w wr kb et a b ms v R q->yM wr)(hA:p.able)(hB:jK T w W kb et a b ms v R (p.setVer V))
  (hQ:∀ (g:Nat->Value)(wx:World),FX w g->(g 7=f 7/\g 8=f 8)->(∃ (A:OA)(n c:Nat)(ds:List fQ)(code:Int),(g 9)=.slice A n c/\(g 10)=.int .i64 code/\jK T w wx kb et a b ms v R (p.setVer V)/\Bw W wx/\Zp a true (p.bars.map bl) w wx ds A n c code)->Q .normal ⟨FR g,[]⟩ wx):
  Code.wp prog (cd [1,1,1,1,1,0]) Q ⟨FR f,[]⟩ W:=by
 have HQ:=fH hQ;clear hQ;have GB:Hid (∀ {wr:World} {v:Value} {R:List iA} {q:fZ},jK T w wr kb et a b ms v R q->yM wr):=M;have z:=fH hB;have HS:=fH hA;obtain⟨U,I⟩:∃ U,W=U:=⟨_,rfl⟩
 rw[I] at z HQ |-;clear M hB hA I;obtain⟨F2,F3,F4,F5⟩:=F;unfold FR;rw[F2,F3,F4,F5];clear F2 F3 F4 F5
 conv=>arg 2;whnf
 have c0:=z.box.cell 0 _ rfl;have k0:=z.kv.cell 0 _ rfl;have p4:=z.pk.cell 5 _ rfl
 go_region_held3 (fun X=>X.cell? ⟨w.heap.size,0,none⟩=some (.pointer (some ⟨kb,0,none⟩))/\X.cell? ⟨kb,0,none⟩=some (.int .i64 a)/\X.cell? ⟨w.heap.size+1,5,none⟩=some (.slice p.ba p.bars.length p.bc))
  (first
    | exact⟨c0,k0,p4⟩
    | exact⟨O.box.cell 0 _ rfl,O.kv.cell 0 _ rfl,O.pk.cell 5 _ rfl⟩
    | go_keep)
  (first
    | (go_at_call 27;refine(Ji a true p.ba p.bc p.bars _ (GB z.drew) (gR z.drew.own.bars) HS.bars HS.small.bars_).mono ?_;rintro e w7 ⟨A7,n7,c7,Y,D,rfl,H,K⟩
       have O:=fH (z.drew.step H);have aa:=fH H;have ab:=fH K;clear K))
 all_goals
  clear c0 k0 p4 H;go_wp2_with fail;refine jZ ?_;refine HQ _ _ ⟨rfl,rfl,rfl,rfl⟩ ⟨rfl,rfl⟩ ⟨A7,n7,c7,Y,D,rfl,rfl,O,(Below.refl _ U).drew.trans aa.out,?_⟩;have J:=ab.out;show if _ then _ else _
  split at J
  ·rename_i Z;rw[if_pos Z];exact⟨J.1,J.2.1,U.drew,z.res.sz,J.2.2⟩
  ·rename_i Z;rw[if_neg Z];exact J.1
theorem abj {ms:List oq}{R:List iA}{p:fZ}(F:FX w f)(K:f 8=.int .i64 code)(hR:R.length<=1000000)(hB:jK T w W kb et a b ms v R (p.setVer V))
  (O:∀ (g:Nat->Value)(wx:World),FX w g->(g 7=f 7/\g 8=f 8/\g 9=f 9/\g 10=f 10)->(∃ v1 bs,jK T w wx kb et a b ms v1 (R++bs) (p.setVer V)/\(bs=[]↔code=0)/\bs.length<=1/\(code=0->wx=W))->Q .normal ⟨FR g,[]⟩ wx):
  Code.wp prog (cd [1,1,1,1,1,1,0]) Q ⟨FR f,[]⟩ W:=by
 have I:=fH O;clear O;have M:=fH hB;have J:=fH hR;obtain⟨Z,D⟩:∃ Z,W=Z:=⟨_,rfl⟩
 rw[D] at M I |-;clear hB hR D;obtain⟨U,F3,Y,X⟩:=F;unfold FR;rw[U,F3,Y,X,K];clear U F3 Y X
 conv=>arg 2;whnf
 by_cases z:code=0
 ·have q:(code != 0)=false:=by simp[z]
  have H:=fH z;clear z;go_wp2_with fail;refine jZ ?_;exact I.out _ _ ⟨rfl,rfl,rfl,rfl⟩ ⟨rfl,K.symm,rfl,rfl⟩ ⟨v,[],by rw[List.append_nil];exact M.out,⟨fun _=>H.out,fun _=>rfl⟩,by show(0:Nat)<=1;decide,fun _=>rfl⟩
 ·have q:(code != 0)=true:=by simpa [bne] using z
  have H:=fH z;clear z;go_wp2_with fail;refine(oU M J p.nm ⟨#[110,101,101,100,115]⟩ code rfl).mono ?_;rintro e w6 ⟨rfl,v6,h6⟩;have B9:=fH h6;clear h6;go_wp2_with fail;refine jZ ?_;exact I.out _ _ ⟨rfl,rfl,rfl,rfl⟩ ⟨rfl,K.symm,rfl,rfl⟩ ⟨v6,_,B9,⟨fun e=>by simp at e,fun e=>absurd e H⟩,by simp,fun e=>absurd e H⟩
theorem abk {ms:List oq}{R:List iA}{p:fZ}(F:FX w f)(z:f 10=.int .i64 code)(hR:R.length<=1000000)(hB:jK T w W kb et a b ms v R (p.setVer V))
  (O:∀ (g:Nat->Value)(wx:World),FX w g->(g 7=f 7/\g 8=f 8/\g 9=f 9/\g 10=f 10)->(∃ v1 bs,jK T w wx kb et a b ms v1 (R++bs) (p.setVer V)/\(bs=[]↔code=0)/\bs.length<=1/\(code=0->wx=W))->Q .normal ⟨FR g,[]⟩ wx):
  Code.wp prog (cd [1,1,1,1,1,1,1,0]) Q ⟨FR f,[]⟩ W:=by
 have J:=fH O;clear O;have M:=fH hB;have K:=fH hR;obtain⟨Z,H⟩:∃ Z,W=Z:=⟨_,rfl⟩
 rw[H] at M J |-;clear hB hR H;obtain⟨U,F3,Y,X⟩:=F;unfold FR;rw[U,F3,Y,X,z];clear U F3 Y X
 conv=>arg 2;whnf
 by_cases D:code=0
 ·have q:(code != 0)=false:=by simp[D]
  have I:=fH D;clear D;go_wp2_with fail;refine jZ ?_;exact J.out _ _ ⟨rfl,rfl,rfl,rfl⟩ ⟨rfl,rfl,rfl,z.symm⟩ ⟨v,[],by rw[List.append_nil];exact M.out,⟨fun _=>I.out,fun _=>rfl⟩,by show(0:Nat)<=1;decide,fun _=>rfl⟩
 ·have q:(code != 0)=true:=by simpa [bne] using D
  have I:=fH D;clear D;go_wp2_with fail;refine(oU M K p.nm ⟨#[98,97,114,115]⟩ code rfl).mono ?_;rintro e w6 ⟨rfl,v6,h6⟩;have B9:=fH h6;clear h6;go_wp2_with fail;refine jZ ?_;exact J.out _ _ ⟨rfl,rfl,rfl,rfl⟩ ⟨rfl,rfl,rfl,z.symm⟩ ⟨v6,_,B9,⟨fun e=>by simp at e,fun e=>absurd e I⟩,by simp,fun e=>absurd e I⟩
theorem Zq {code7 code8:Int}(F:FX w f)(J:f 8=.int .i64 code7)(z:f 10=.int .i64 code8)
  (V:∀ (g:Nat->Value)(wx:World),FX w g->(g 7=f 7/\g 8=f 8/\g 9=f 9/\g 10=f 10)->(∃ tb:Bool,(g 75)=.bool tb/\(tb=true↔code7=0/\code8=0)/\wx=W)->Q .normal ⟨FR g,[]⟩ wx):
  Code.wp prog (cd [1,1,1,1,1,1,1,1,0,0]) Q ⟨FR f,[]⟩ W:=by
 have M:=fH V;clear V;obtain⟨U,H⟩:∃ U,W=U:=⟨_,rfl⟩
 rw[H] at M |-;clear H;obtain⟨O,R,Y,X⟩:=F;unfold FR;rw[O,R,Y,X,J,z];clear O R Y X
 conv=>arg 2;whnf
 by_cases D:code7=0
 ·have q7:(code7==0)=true:=by simpa using D
  have Z:=fH D;clear D;obtain⟨I,h8⟩:∃ I,(code8==0)=I:=⟨_,rfl⟩
  have K:Hid (I=true↔code7=0/\code8=0):=by show _↔_;rw[<-h8,Z.out];simp
  go_wp2_with fail;refine jZ ?_;exact M.out _ _ ⟨rfl,rfl,rfl,rfl⟩ ⟨rfl,J.symm,rfl,z.symm⟩ ⟨I,rfl,K,rfl⟩
 ·have q7:(code7==0)=false:=by simpa using D
  have K:Hid (false=true↔code7=0/\code8=0):=by show _↔_;simp[D]
  clear D;go_wp2_with fail;refine jZ ?_;exact M.out _ _ ⟨rfl,rfl,rfl,rfl⟩ ⟨rfl,J.symm,rfl,z.symm⟩ ⟨false,rfl,K,rfl⟩
theorem abn {ms:List oq}{R:List iA}{q:fZ}(F:FX w f)(ha:iY a)(K:nw a b q.ar=(AR,ec))(hB:jK T w W kb et a b ms v R q)
  (X:∀ (g:Nat->Value)(wx:World),FX w g->((g 15)=.string AR/\(g 16)=.int .i64 ec/\jK T w wx kb et a b ms v R q)->Q .normal ⟨FR g,[]⟩ wx):
  Code.wp prog (cd [1,1,1,1,1,1,1,1,1,1,0,0]) Q ⟨FR f,[]⟩ W:=by
 have HQ:=fH X;clear X;have HA:=fH ha;have z:=fH hB;have O:=fH K;obtain⟨J,I⟩:∃ J,W=J:=⟨_,rfl⟩
 rw[I] at z |-;clear ha hB K I;obtain⟨Y,F3,F4,Z⟩:=F;unfold FR;rw[Y,F3,F4,Z];clear Y F3 F4 Z
 conv=>arg 2;whnf
 have c0:=z.box.cell 0 _ rfl;have k0:=z.kv.cell 0 _ rfl;have U:=z.kv.cell 1 _ rfl;have V:=z.pk.cell 2 _ rfl
 go_region_held3 (fun M=>M.cell? ⟨w.heap.size,0,none⟩=some (.pointer (some ⟨kb,0,none⟩))/\M.cell? ⟨kb,0,none⟩=some (.int .i64 a)/\M.cell? ⟨kb,1,none⟩=some (.int .i64 b)/\M.cell? ⟨w.heap.size+1,2,none⟩=some (.string q.ar))
  (first
    | exact⟨c0,k0,U,V⟩
    | exact⟨D.box.cell 0 _ rfl,D.kv.cell 0 _ rfl,D.kv.cell 1 _ rfl,D.pk.cell 2 _ rfl⟩
    | go_keep)
  (first
    | (go_at_call 50;refine mb (Pb a b q.ar _) ?_;rintro aa H
       rw[O.out];have D:=fH (z.drew.step H);unfold Ak))
 all_goals
  clear c0 k0 U V H;go_wp2_with fail;refine jZ ?_;exact HQ.out _ _ ⟨rfl,rfl,rfl,rfl⟩ ⟨rfl,rfl,D⟩
theorem abo {ms:List oq}{R:List iA}{q:fZ}(F:FX w f)(K:f 15=.string AR)(J:f 16=.int .i64 ec)(X:jK T w W kb et a b ms v R q)
  (Y:∀ (g:Nat->Value)(wx:World),FX w g->(ec=0/\jK T w wx kb et a b ms v R (q.setAr AR)\/ec≠0/\jK T w wx kb et a b ms v R q)->Q .normal ⟨FR g,[]⟩ wx):
  Code.wp prog (cd [1,1,1,1,1,1,1,1,1,1,0,1]) Q ⟨FR f,[]⟩ W:=by
 have Z:=fH Y;clear Y;have z:=fH X;obtain⟨I,D⟩:∃ I,W=I:=⟨_,rfl⟩
 rw[D] at z |-;clear X D;obtain⟨U,V,F4,F5⟩:=F;unfold FR;rw[U,V,F4,F5,K,J];clear U V F4 F5
 conv=>arg 2;whnf
 by_cases H:ec=0
 ·have tq:(ec==0)=true:=by simp[H]
  have O:=fH H;clear H;have p2:=z.pk.cell 2 _ rfl;have g2:=z.pk.free 2 (by show 2<9;omega);have M:=fH (z.putAr AR);go_wp2_with fail;refine jZ ?_;exact Z.out _ _ ⟨rfl,rfl,rfl,rfl⟩ (.inl ⟨O.out,M⟩)
 ·have tq:(ec==0)=false:=by simpa using H
  have O:=fH H;clear H;go_wp2_with fail;refine jZ ?_;exact Z.out _ _ ⟨rfl,rfl,rfl,rfl⟩ (.inr ⟨O.out,z⟩)
def uE (p:fZ):jo:=⟨p.nm,p.ver,p.gives⟩
theorem Gi (D:iY a)(I:iY b){v:BA}(h:(trans a b v).2=0):(trans a 1 v).2=0:=by
 obtain⟨c,H,F,z,_⟩:=Fp D I h;unfold trans;rw[if_neg (by rintro(x | x);exact x D;exact x (.inl rfl)),if_neg (by rw[H];simp),F];simp only;unfold vq;unfold iR at z;rw[Bool.and_eq_true] at z;rw[if_pos (Nr z.1)]
theorem Wy {kn:List jH}{p:fZ}(D:hH (bl p.nm)=true)(ht:pD a b kn p):qD a b (uE p)=0:=by
 refine Ln ?_ ht.ver (fun y z=>⟨(ht.gives y z).2.1,(ht.gives y z).2.2⟩);unfold uf;rw[Bool.and_eq_true,List.all_eq_true];exact⟨D,fun y z=>(ht.gives y z).1⟩
theorem Wz (D:iY a)(F:iY b){kn:List jH}{p:fZ}(H:hH (bl p.nm)=true)(ht:pD a b kn p):qD a 1 (uE p)=0:=by
 refine Ln ?_ (Gi D F ht.ver) (fun y z=>⟨(ht.gives y z).2.1,Gi D F (ht.gives y z).2.2⟩);unfold uf;rw[Bool.and_eq_true,List.all_eq_true];exact⟨H,fun y z=>(ht.gives y z).1⟩
theorem OG (D:iY a)(F:iY b){l:List fZ}(h:∀ p∈l,qD a b (uE p)=0):nB a b (l.map uE)=0:=by
 unfold nB;rw[if_neg (by rintro(x | x);exact x D;exact x F)];apply FW;intro x H;obtain⟨p,z,rfl⟩:=List.mem_map.1 H;exact h p z
theorem Gj {a b:Int}{kn:List jH}:∀ {l x:List fZ},lQ a b kn l x->x.map uE=(l.map uE).map (lY a b)
 | [],[],_=>rfl
 | [],q::x,h=>by have:=h.len;simp at this
 | p::l,[],h=>by have:=h.len;simp at this
 | p::l,q::x,h=>by
  obtain⟨z,D⟩:=h.cons_inv;rw[List.map_cons,List.map_cons,List.map_cons,Gj D];congr 1;unfold uE lY;rw[z.nm,z.ver,z.gives];rfl
theorem RS (U:iY b){kn:List jH}{l x:List fZ}(h:lQ a b kn l x)(ht:∀ p∈l,pD a b kn p)(I:∀ p∈l,QW a p){i:Nat}{p q:fZ}(J:l[i]?=some p)(Y:x[i]?=some q):
  jc a false (p.needs.map bl)=0/\jc a true (p.bars.map bl)=0/\jc b false (q.needs.map bl)=0/\jc b true (q.bars.map bl)=0 /\
  (jk a (l.map uE) (pW a false (p.needs.map bl))&&jk a (l.map uE) (pW a true (p.bars.map bl)))=(jk b (x.map uE) (pW b false (q.needs.map bl))&&jk b (x.map uE) (pW b true (q.bars.map bl))):=by
 have z:=gM J;have H:=(I p z).isf;have F:=h.each i p q J Y;obtain⟨O,K,M⟩:=(ht p z).deps;obtain⟨V,X,_⟩:=Fo M;have R:=OG H U (fun y D=>Wy (I y D).name (ht y D));have Z:=OG H (.inl rfl) (fun y D=>Wz H U (I y D).name (ht y D));obtain⟨s1,s2⟩:=Zj O K R Z M;refine⟨O,K,by rw[F.needs];exact V,by rw[F.bars];exact X,?_⟩;rw[s1,<-s2,wL R,<-Gj h,F.needs,F.bars];rfl
theorem uF (a b:BA)(w:World)(hG:Gl w)(ha:a.size<=1000000)(hb:b.size<=1000000):Calls prog 209 #[.int .i64 1,.string a,.string b] w fun e w'=>e=.returned (.int .i64 (Hv a b))/\Bw w w':=by
 have HG:=fH hG;have S1:=fH fun W hw=>sW 1 (.inl rfl) a W (HG.below hw) (by omega);have S2:=fH fun W hw=>sW 1 (.inl rfl) b W (HG.below hw) (by omega);obtain⟨J,H⟩:∃ J,gL 1 a=J:=⟨_,rfl⟩
 obtain⟨K,D⟩:∃ K,gL 1 b=K:=⟨_,rfl⟩
 rw[H] at S1;rw[D] at S2;have CA:=fH H;have CB:=fH D;go_in;go_wp2_with fail;refine(S1 w bR).mono ?_;rintro e w1 ⟨ep,pr,Y,rfl,M,ac⟩;have B1:=fH ac;have P1:=fH M;by_cases I:J≠0
 ·have q:(J != 0)=true:=by simpa [bne] using I
  have E:Hid (Hv a b=0):=by show _=_;unfold Hv;rw[if_pos (.inl (by rw[CA.out];exact I))]
  go_wp2;go_ret;exact⟨fT E.out.symm,B1⟩
 have q:(J != 0)=false:=by rw[Decidable.not_not.1 I];rfl
 have V:Hid (gL 1 a=0):=by show _=_;rw[CA.out];exact Decidable.not_not.1 I
 obtain⟨x1,x2,x3,x4,x5⟩:=P1.out (Decidable.not_not.1 I);have X1:=fH x1;go_wp2_with fail;refine(S2 w1 B1).mono ?_;rintro e w2 ⟨U,O,z,rfl,Z,aa⟩;have B2:=fH (fM B1 aa);have P2:=fH Z;by_cases F:K≠0
 ·have q2:(K != 0)=true:=by simpa [bne] using F
  have E:Hid (Hv a b=0):=by show _=_;unfold Hv;rw[if_pos (.inr (by rw[CB.out];exact F))]
  go_wp2;go_ret;exact⟨fT E.out.symm,B2⟩
 have q2:(K != 0)=false:=by rw[Decidable.not_not.1 F];rfl
 have ad:Hid (gL 1 b=0):=by show _=_;rw[CB.out];exact Decidable.not_not.1 F
 obtain⟨y1,y2,y3,y4,y5⟩:=P2.out (Decidable.not_not.1 F);have E:Hid (Hv a b=iz id [nM (bl ep) (bl U),tj (bl pr) (bl O),tj (bl Y) (bl z)]):=by
  show _=_;unfold Hv vt;rw[if_neg (fun h=>h.elim (fun h=>h V.out) (fun h=>h ad.out)),X1.out,y1];rfl
 have N1:=fH fun W=>lZ ep U W;have N2:=fH fun W=>pM pr O W (by omega) (by omega);have N3:=fH fun W=>pM Y z W (by omega) (by omega);generalize nM (bl ep) (bl U)=c1 at *;generalize tj (bl pr) (bl O)=c2 at *;generalize tj (bl Y) (bl z)=c3 at *;have HO:=fH fun (W:World)=>Rs (some ⟨W.heap.size,0,none⟩) 3 [c1,c2,c3] (W.alloc (.cells (lC [c1,c2,c3]).toArray 3)) (Li W _ _) (by simp);have ic:lC [c1,c2,c3]=[.int .i64 c1,.int .i64 c2,.int .i64 c3]:=rfl;rw[ic] at HO;go_wp2_with fail;refine mb (N1 _) ?_;rintro w3 ae;have B3:=fH (fM B2 ae);go_wp2_with fail;refine mb (N2 _) ?_;rintro w4 ab;have B4:=fH (fM B3 ab);go_wp2_with fail;refine mb (N3 _) ?_;rintro w5 X;have B5:=fH (fM B4 X);go_wp2_with fail;refine mb (HO w5) ?_;rintro w6 R;have B6:=fH (fM (fM B5 (bR.alloc lr (.cells #[.int .i64 c1,.int .i64 c2,.int .i64 c3] 3))) R);go_wp2;go_ret;exact⟨fT E.out.symm,B6⟩
theorem OH (h:gL 3 s=0):∃ ps p q,rz (bl s)=some (ps,p,q)/\Wg (bl s)=ps:=by
 have z:=(kB (.inr (.inr rfl)) h).1;have:la 3 (bl s)=oI (bl s):=rfl;rw[this] at z;unfold oI at z;cases hp:rz (bl s) with
 | none=>rw[hp] at z;exact absurd rfl z
 | some x=>obtain⟨ps,p,q⟩:=x;exact⟨ps,p,q,rfl,by unfold Wg;rw[hp]⟩
def WC (N m:Nat)(acc:List Pc)(r:LU):Prop:=acc.length+r.length<=m/\r.length<=N/\∀ x∈acc,x.text.length<=N
theorem ox {x:Pc}(h:∀ y∈acc,y.text.length<=N)(D:x.text.length<=N):∀ y∈acc++[x],y.text.length<=N:=by
 intro y z;rcases List.mem_append.1 z with z | z
 ·exact h y z
 ·rw[List.mem_singleton.1 z];exact D
theorem Bh {N m:Nat}:∀ (k:Nat)(D:Int)(F:List Pc)(l:LU)(z:List Pc)(r:LU),lI k D F l=some (z,r)->WC N m F l->WC N m z r
 | 0,_,_,_,_,_,h,_=>by simp[lI] at h
 | k+1,D,F,l,z,r,h,hp=>by
  unfold lI at h;split at h
  ·cases h
  ·rename_i O;obtain⟨R,M,I⟩:=hp;have K:=jI gf l;have J:(⟨D,l.take (fS gf l),0⟩:Pc).text.length<=N:=by simp;omega
   have H:(l.drop (fS gf l)).length=l.length-fS gf l:=by simp
   split at h
   ·rename_i t e;rw[e] at H;simp at H;exact Bh k 6 _ t z r h ⟨by simp;omega,by omega,ox I J⟩
   ·injection h with h;injection h with e1 e2;subst e1 e2;exact⟨by simp;omega,by rw[H];omega,ox I J⟩
theorem OI {m:Nat}(h:WC N m acc l)(H:1<=N):WC N m (mr acc l).1 (mr acc l).2:=by
 obtain⟨D,F,z⟩:=h;unfold mr;cases l with
 | nil=>exact⟨D,F,z⟩
 | cons c r=>
  simp only;simp at D F;split
  ·exact⟨by simp;omega,by simp only;omega,ox z (by simpa using H)⟩
  ·exact⟨by simp;omega,by simp;omega,z⟩
theorem Bi {N m:Nat}:∀ (k:Nat)(D:List Pc)(l:LU)(z:List Pc)(r:LU),km k D l=some (z,r)->WC N m D l->WC N m z r
 | 0,_,_,_,_,h,_=>by simp[km] at h
 | k+1,D,l,z,r,h,hp=>by
  unfold km at h;split at h
  ·rename_i t;obtain⟨O,M,H⟩:=hp;simp at O M;split at h
   ·cases h
   ·rename_i I U;refine Bi k _ _ z r h ?_;have R:=jI it t;have K:=jI gf (t.drop (fS it t));rw[List.length_drop] at K;refine⟨?_,by simp;omega,?_⟩
    ·by_cases F:0<fS gf (List.drop (fS it t) t)
     ·rw[if_pos F];simp;omega
     ·rw[if_neg F];simp;omega
    ·have J:(⟨if 4<=I then 4 else 0,t.take (fS it t),I⟩:Pc).text.length<=N:=by simp;omega
     by_cases F:0<fS gf (List.drop (fS it t) t)
     ·rw[if_pos F];exact ox (ox H J) (by simp;omega)
     ·rw[if_neg F,List.append_nil];exact ox H J
  ·injection h with h;injection h with e1 e2;subst e1 e2;exact hp
theorem JG {ps:List Pc}{p q:LU}(h:rz l=some (ps,p,q))(D:l.length<=64):ps.length<=1000000/\∀ x∈ps,x.text.length<=1000:=by
 unfold rz at h;split at h
 ·cases h
 ·rename_i a r M;split at h
  ·cases h
  ·rename_i b t K;have H:=Bh (N:=64) (m:=64) _ _ _ _ _ _ M ⟨by simpa using D,D,by simp⟩;have I:=OI H (by omega);obtain⟨O,J,F⟩:=Bi _ _ _ _ _ K I;unfold tF at h;split at h
   ·injection h with h;injection h with e1 _;subst e1;exact⟨by simp;omega,fun x z=>Nat.le_trans (ox F (by simp) x z) (by omega)⟩
   ·rename_i v;simp at J;split at h
    ·injection h with h;injection h with e1 _;subst e1;exact⟨by simp;omega,fun x z=>Nat.le_trans (ox (ox F (by simp;omega)) (by simp) x z) (by omega)⟩
    ·cases h
   ·cases h
theorem vv (a b:BA)(w:World)(hG:Gl w)(ha:a.size<=1000000)(hb:b.size<=1000000):Calls prog 209 #[.int .i64 3,.string a,.string b] w fun e w'=>e=.returned (.int .i64 (Hw a b))/\Bw w w':=by
 have R:=fH hG;have S1:=fH fun W D=>sW 3 (.inr (.inr rfl)) a W (R.below D) (by omega);have S2:=fH fun W D=>sW 3 (.inr (.inr rfl)) b W (R.below D) (by omega);obtain⟨J,I⟩:∃ J,gL 3 a=J:=⟨_,rfl⟩
 obtain⟨K,H⟩:∃ K,gL 3 b=K:=⟨_,rfl⟩
 rw[I] at S1;rw[H] at S2;have CA:=fH I;have CB:=fH H;go_in;go_wp2_with fail;refine(S1 w bR).mono ?_;rintro e w1 ⟨ep,pr,rv,rfl,-,ab⟩;have B1:=fH ab;by_cases U:J≠0
 ·have q:(J != 0)=true:=by simpa [bne] using U
  have E:Hid (Hw a b=0):=by show _=_;unfold Hw;rw[if_pos (.inl (by rw[CA.out];exact U))]
  go_wp2;go_ret;exact⟨fT E.out.symm,B1⟩
 have q:(J != 0)=false:=by rw[Decidable.not_not.1 U];rfl
 have z:Hid (gL 3 a=0):=by show _=_;rw[CA.out];exact Decidable.not_not.1 U
 go_wp2_with fail;refine(S2 w1 B1).mono ?_;rintro e w2 ⟨eq,ps,ae,rfl,-,aa⟩;have V:=fH (fM B1 aa);by_cases O:K≠0
 ·have q2:(K != 0)=true:=by simpa [bne] using O
  have E:Hid (Hw a b=0):=by show _=_;unfold Hw;rw[if_pos (.inr (by rw[CB.out];exact O))]
  go_wp2;go_ret;exact⟨fT E.out.symm,V⟩
 have q2:(K != 0)=false:=by rw[Decidable.not_not.1 O];rfl
 have F:Hid (gL 3 b=0):=by show _=_;rw[CB.out];exact Decidable.not_not.1 O
 obtain⟨xs,xp,xq,ax,tx⟩:=OH z.out;obtain⟨ys,yp,yq,ay,ty⟩:=OH F.out;have za:=(kB (.inr (.inr rfl)) z).2;have zb:=(kB (.inr (.inr rfl)) F).2;obtain⟨lx,sx⟩:=JG ax (by rw[fI];exact za);obtain⟨ly,sy⟩:=JG ay (by rw[fI];exact zb);have E:Hid (Hw a b=mK xs ys):=by
  show _=_;unfold Hw;rw[if_neg (fun h=>h.elim (fun h=>h z.out) (fun h=>h F.out)),tx,ty]
 have Y:=fH fun W D=>qw a W (R.below D) za;have Z:=fH fun W D=>qw b W (R.below D) zb;unfold wg at Y Z;rw[ax] at Y;rw[ay] at Z;have SX:=fH sx;have SY:=fH sy;go_wp2_with fail;refine(Y _ V).mono ?_;rintro e w3 ⟨ac,A,c,rfl,hr⟩;have B3:=fH (fM V ac);have RA:=fH hr;go_wp2_with fail;refine(Z _ B3).mono ?_;rintro e w4 ⟨M,B,d,rfl,hr⟩;have B4:=fH (fM B3 M);have RB:=fH hr;have ad:=fH (RA.below M);have CF:=fH (BV 258 A B c d xs ys w4 ad RB lx ly Tryz.call258 (fH fun p hp q hq W=>Hz p q W (SX p hp) (SY q hq)));go_wp2_with fail;refine CF.mono ?_;rintro e w5 ⟨rfl,X⟩;have B5:=fH (fM B4 X);go_wp2;go_ret;exact⟨fT E.out.symm,B5⟩
theorem BZ (fmt:Int)(H:iY fmt)(a b:BA)(w:World)(D:Gl w)(z:a.size<=1000000)(F:b.size<=1000000):Calls prog 209 #[.int .i64 fmt,.string a,.string b] w fun e w'=>e=.returned (.int .i64 (Wi fmt a b))/\Bw w w':=by
 rcases H with rfl | rfl | rfl
 ·exact uF a b w D z F
 ·exact vu a b w D z F
 ·exact vv a b w D z F
theorem Bj (fmt:Int)(hf:iY fmt)(op:Int)(h1:1<=op)(h5:op<=5)(v u:BA)(w:World)(hG:Gl w)(I:v.size<=1000000)(H:u.size<=1000000):Calls prog 158 #[.int .i64 fmt,.int .i64 op,.string v,.string u] w fun e w'=>e=.returned (.bool (mV fmt op v u))/\Bw w w':=by
 have HG:=fH hG;have X:=fH fun W J=>gP fmt v W (HG.below J) (by omega);have Z:=fH fun W J=>gP fmt u W (HG.below J) (by omega);have C3:=fH fun W J=>BZ fmt hf v u W (HG.below J) I H;obtain⟨U,O⟩:∃ c,gL fmt v=c:=⟨_,rfl⟩
 obtain⟨V,M⟩:∃ c,gL fmt u=c:=⟨_,rfl⟩
 have E:Hid (mV fmt op v u=if U≠0\/V≠0 then false else opB op (Wi fmt v u)):=by show _=_;unfold mV;rw[O,M]
 rw[O] at X;rw[M] at Z;generalize Wi fmt v u=cc at *;generalize mV fmt op v u=R at *;by_cases I:U≠0
 ·have q:(U != 0)=true:=by simpa [bne] using I
  have K:Hid (R=false):=by show _=_;rw[E.out,if_pos (.inl I)]
  go_in;go_wp2_with fail;refine mb (X _ bR) ?_;rintro w1 z;have D:=fH z;go_wp2;go_ret;exact⟨fJ K.out.symm,D⟩
 have q:(U != 0)=false:=by rw[Decidable.not_not.1 I];rfl
 by_cases H:V≠0
 ·have q2:(V != 0)=true:=by simpa [bne] using H
  have K:Hid (R=false):=by show _=_;rw[E.out,if_pos (.inr H)]
  go_in;go_wp2_with fail;refine mb (X _ bR) ?_;rintro w1 z;have D:=fH z;go_wp2_with fail;refine mb (Z _ D) ?_;rintro w2 F;have Y:=fH (fM D F);go_wp2;go_ret;exact⟨fJ K.out.symm,Y⟩
 have q2:(V != 0)=false:=by rw[Decidable.not_not.1 H];rfl
 have K:Hid (R=opB op cc):=by show _=_;rw[E.out,if_neg (fun h=>h.elim I H)]
 rcases(by omega:op=1\/op=2\/op=3\/op=4\/op=5) with rfl | rfl | rfl | rfl | rfl
 all_goals
  go_in;go_wp2_with fail;refine mb (X _ bR) ?_;rintro w1 z;have D:=fH z;go_wp2_with fail;refine mb (Z _ D) ?_;rintro w2 F;have Y:=fH (fM D F);go_wp2_with fail;refine mb (C3 _ Y) ?_;rintro w3 aa;have B3:=fH (fM Y aa);go_wp2;go_ret;exact⟨fJ (by rw[K.out];first | (simp[opB];done) | (simp[opB];rfl)),B3⟩
theorem OJ {t:BA}(h:¬ s=t):¬ s.toList=t.toList:=fun e=>h (kG (by rw[<-fK,<-fK,e]))
structure abW (g:fP):Prop where
 ver:g.ver.size<=1000000
structure sw (g:fP):Prop where
 ver:g.op≠0->g.ver.size<=1000000
 op0:0<=g.op
 op5:g.op<=5
theorem H7 (fmt:Int)(hf:iY fmt)(a g:fP)(pA X:Nat)(w:World)(hG:Gl w)(ha:sw a)(hg:abW g)(h1:fV w pA [.string a.nm,.int .i64 a.op,.string a.ver])(D:w.cell? ⟨X,0,none⟩=some (.int .i64 fmt)):Calls prog 160 #[g.val,.pointer (some ⟨pA,0,none⟩),.pointer (some ⟨X,0,none⟩)] w fun e w'=>e=.returned (.bool (BR fmt a g))/\Bw w w':=by
 obtain⟨O,F⟩:∃ O,w.alloc (.cells #[.string g.nm,.int .i64 g.op,.string g.ver] 78)=O:=⟨_,rfl⟩
 have I:Hid (Bw w O):=by rw[<-F];exact bR.alloc lr _
 have K1:Hid (fV O w.heap.size [.string g.nm,.int .i64 g.op,.string g.ver]):=by show fV _ _ _;rw[<-F];exact fV.new w [.string g.nm,.int .i64 g.op,.string g.ver] _
 have KA:=h1.below I.out;obtain⟨a0,a1,a2⟩:=qj KA.cell;have f0:O.cell? ⟨X,0,none⟩=some (.int .i64 fmt):=(I.cell (p:=⟨X,0,none⟩) (World.block_lt_of_cell? _ _ D)).trans D;obtain⟨g0,g1,g2⟩:=qj K1.cell;have z:=fH F;have Y:=fH fun (h:¬ a.op=0) W hb=>Bj fmt hf a.op (by have:=ha.op0;omega) ha.op5 g.ver a.ver W (hG.below hb) hg.ver (ha.ver h);have J:=fH (show BR fmt a g=if g.nm≠a.nm then false else if a.op=0 then true else if g.op=3 then mV fmt a.op g.ver a.ver else decide (fmt=2/\g.op=0) from rfl);obtain⟨R,hR⟩:∃ R,BR fmt a g=R:=⟨_,rfl⟩
 rw[hR] at J |-;unfold fP.val;generalize hs:mV fmt a.op g.ver a.ver=sb at *;clear hR F KA h1 D hG ha hg hs;obtain⟨an,ao,av⟩:=a;obtain⟨gn,V,gv⟩:=g;simp only at a0 a1 a2 g0 g1 g2 J z Y |-;by_cases Z:gn=an
 rotate_left
 ·have aa:=OJ Z;have ab:(gn.toList==an.toList)=false:=by simpa using aa
  have E:Hid (R=false):=by show _=_;rw[J.out,if_pos Z]
  clear Z;go_in;go_upto_region 1 with(fail)
  rw[z.out];go_wp2;go_ret;exact⟨fJ E.out.symm,I⟩
 subst Z;by_cases H:ao=0
 ·have q0:(ao==0)=true:=by simp[H]
  have E:Hid (R=true):=by show _=_;rw[J.out,if_neg (by simp),if_pos H]
  clear H;go_in;go_upto_region 1 with(fail)
  rw[z.out];go_wp2;go_ret;exact⟨fJ E.out.symm,I⟩
 have q0:(ao==0)=false:=by simpa using H
 have M:=fH (Y H);by_cases K:V=3
 ·have q3:(V==3)=true:=by simp[K]
  have E:Hid (R=sb):=by show _=_;rw[J.out,if_neg (by simp),if_neg H,if_pos K]
  clear H K Y;go_in;go_upto_region 1 with(fail)
  rw[z.out];go_wp2_with fail;refine mb (M _ I) ?_;rintro w2 U;have B2:=fH (fM I U);clear U;go_wp2;go_ret;exact⟨fJ E.out.symm,B2⟩
 have q3:(V==3)=false:=by simpa using K
 have E:Hid (R=decide (fmt=2/\V=0)):=by show _=_;rw[J.out,if_neg (by simp),if_neg H,if_neg K]
 clear H K Y M J;by_cases D:fmt=2
 ·have q2:(fmt==2)=true:=by simp[D]
  obtain⟨b,hb⟩:∃ b,(V==0)=b:=⟨_,rfl⟩
  have E2:Hid (R=b):=by show _=_;rw[E.out,<-hb];first | (simp[D];done) | (simp[D];rfl)
  clear D E;cases b
  all_goals
   go_in;go_upto_region 1 with(fail)
   rw[z.out];go_wp2;go_ret;exact⟨fJ E2.out.symm,I⟩
 ·have q2:(fmt==2)=false:=by simpa using D
  have E2:Hid (R=false):=by show _=_;rw[E.out];simp[D]
  clear D E;go_in;go_upto_region 1 with(fail)
  rw[z.out];go_wp2;go_ret;exact⟨fJ E2.out.symm,I⟩
structure JH (w:World) (x:gj):Prop where
 row:Rd w 3 x.ga x.gives.length (x.gives.flatMap fP.cells)
 ver:x.ver.size<=1000000
 few:x.gives.length<=1000000
 all:∀ g∈x.gives,abW g
theorem JH.below {x:gj}(h:JH w x)(z:Bw w w'):JH w' x:=⟨h.row.below z,h.ver,h.few,h.all⟩
theorem Ls (fmt:Int)(hf:iY fmt)(x:gj)(a:fP)(w:World)(hG:Gl w)(X:JH w x)(Z:sw a):Calls prog 107 #[.int .i64 fmt,x.val,a.val] w fun e w'=>e=.returned (.bool (WW fmt a x.plain))/\Bw w w':=by
 obtain⟨H,D⟩:∃ H,((w.alloc (.cells #[.int .i64 fmt] 3)).alloc (.cells #[.string x.nm,.string x.ver,.slice x.ga x.gives.length x.gc] 81)).alloc (.cells #[.string a.nm,.int .i64 a.op,.string a.ver] 78)=H:=⟨_,rfl⟩
 have J:Hid (Bw w H):=by rw[<-D];exact((bR.alloc lr _).alloc (by simp) _).alloc (by simp;omega) _
 have K0:Hid (fV H w.heap.size [.int .i64 fmt]):=by show fV _ _ _;rw[<-D];exact((fV.new w [.int .i64 fmt] _).alloc _).alloc _
 have K1:Hid (fV H (w.heap.size+1) [.string x.nm,.string x.ver,.slice x.ga x.gives.length x.gc]):=by
  show fV _ _ _;rw[<-D];have:=(fV.new (w.alloc (.cells #[.int .i64 fmt] 3)) [.string x.nm,.string x.ver,.slice x.ga x.gives.length x.gc] 81).alloc (.cells #[.string a.nm,.int .i64 a.op,.string a.ver] 78);simpa using this
 have K2:Hid (fV H (w.heap.size+2) [.string a.nm,.int .i64 a.op,.string a.ver]):=by
  show fV _ _ _;rw[<-D];have:=fV.new ((w.alloc (.cells #[.int .i64 fmt] 3)).alloc (.cells #[.string x.nm,.string x.ver,.slice x.ga x.gives.length x.gc] 81)) [.string a.nm,.int .i64 a.op,.string a.ver] 78;simpa using this
 have CF:=fH fun W (hb:Bw H W)=>wO 160 (.pointer (some ⟨w.heap.size+2,0,none⟩)) (.pointer (some ⟨w.heap.size,0,none⟩)) (BR fmt a) x.ga x.gc x.gives W ((X.row.below J).below hb) X.few Tryz.call160
  (fH fun g hg W' M=>H7 fmt hf a g (w.heap.size+2) w.heap.size W' (hG.below (fM J (fM hb M))) Z (X.all g hg) (K2.below (fM hb M)) ((K0.below (fM hb M)).cell 0 _ rfl))
 have U:=fH fun (h:¬ a.op=0) W hb=>Bj fmt hf a.op (by have:=Z.op0;omega) Z.op5 x.ver a.ver W (hG.below hb) X.ver (Z.ver h);have I:=fH (show WW fmt a x.plain=((decide (x.nm=a.nm)&&(decide (a.op=0)||mV fmt a.op x.ver a.ver))||x.gives.any (BR fmt a)) from rfl);obtain⟨R,hR⟩:∃ R,WW fmt a x.plain=R:=⟨_,rfl⟩
 rw[hR] at I |-;obtain⟨sb,hs⟩:∃ b,mV fmt a.op x.ver a.ver=b:=⟨_,rfl⟩
 obtain⟨gb,Y⟩:∃ b,x.gives.any (BR fmt a)=b:=⟨_,rfl⟩
 rw[hs] at I U;rw[Y] at I CF;unfold gj.val fP.val;have a0:=K0.cell 0 _ rfl;obtain⟨b0,b1,b2⟩:=qj K1.cell;obtain⟨c0,c1,c2⟩:=qj K2.cell;have z1:w.heap.size<H.heap.size:=World.block_lt_of_cell? _ _ a0;have z2:w.heap.size+1<H.heap.size:=World.block_lt_of_cell? _ _ b0;have F:=fH D;clear hR hs Y D hG X Z hf;obtain⟨an,ao,av⟩:=a;obtain⟨xn,xv,ga,gc,O⟩:=x;simp only at b0 b1 b2 c0 c1 c2 I F U CF K1 K2 |-;generalize O.length=gl at *;by_cases hn:xn=an
 rotate_left
 ·have ac:=OJ hn;have E:Hid (R=gb):=by show _=_;rw[I.out,dF hn];rfl
  clear hn U I;go_in;go_upto_region 1 with(fail)
  rw[F.out];go_wp2_with fail;refine mb (CF _ bR) ?_;rintro w2 z;have B2:=fH (fM J z);clear z;go_wp2;go_ret;exact⟨fJ E.out.symm,B2⟩
 subst hn;by_cases K:ao=0
 ·have q0:(ao==0)=true:=by simp[K]
  have E:Hid (R=true):=by show _=_;rw[I.out,dT K];simp
  clear K U I;go_in;go_upto_region 1 with(fail)
  rw[F.out];go_wp2;go_ret;exact⟨fJ E.out.symm,J⟩
 have q0:(ao==0)=false:=by simpa using K
 have V:=fH (U K);have E:Hid (R=(sb||gb)):=by show _=_;rw[I.out,dF K];simp
 clear K U I;cases sb
 ·have E2:Hid (R=gb):=by show _=_;rw[E.out];rfl
  clear E;go_in;go_upto_region 1 with(fail)
  rw[F.out];go_wp2_with fail;refine mb (V _ J) ?_;rintro w2 z;have ab:=fH z;have B2:=fH (fM J z);have d2:w2.cell? ⟨w.heap.size+1,2,none⟩=some (.slice ga gl gc):=(z.cell (p:=⟨w.heap.size+1,2,none⟩) z2).trans b2;clear z a0 b0 b1 b2 c0 c1 c2;go_wp2_with fail;refine mb (CF _ ab) ?_;rintro w3 aa;have B3:=fH (fM B2 aa);clear aa;go_wp2;go_ret;exact⟨fJ E2.out.symm,B3⟩
 ·have E2:Hid (R=true):=by show _=_;rw[E.out];rfl
  clear E;go_in;go_upto_region 1 with(fail)
  rw[F.out];go_wp2_with fail;refine mb (V _ J) ?_;rintro w2 z;have B2:=fH (fM J z);clear z;go_wp2;go_ret;exact⟨fJ E2.out.symm,B2⟩
theorem Cb (fmt:Int)(J:iY fmt)(x:gj)(a:fP)(p q:Nat)(w:World)(I:Gl w)(O:JH w x)(K:sw a)(Y:w.cell? ⟨p,0,none⟩=some (.int .i64 fmt))(M:fV w q [.string a.nm,.int .i64 a.op,.string a.ver]):Calls prog 106 #[x.val,.pointer (some ⟨p,0,none⟩),.pointer (some ⟨q,0,none⟩)] w fun e w'=>e=.returned (.bool (WW fmt a x.plain))/\Bw w w':=by
 have HG:=fH I;have F:Hid (Bw w (w.alloc (.cells #[.string x.nm,.string x.ver,.slice x.ga x.gives.length x.gc] 81))):=bR.alloc lr _;have H:=fH (Ls fmt J x a _ (I.below F) (O.below F) K);obtain⟨X,c1,c2⟩:=qj M.cell;generalize WW fmt a x.plain=R at *;unfold gj.val fP.val at H;unfold gj.val;obtain⟨gl,z⟩:∃ gl,x.gives.length=gl:=⟨_,rfl⟩
 rw[z] at H F |-;clear z I M O K J;have U:=World.block_lt_of_cell? _ _ Y;have V:=World.block_lt_of_cell? _ _ X;simp only at U V;go_in;go_wp2_with fail;refine H.mono ?_;rintro e w2 ⟨rfl,D⟩;have Z:=fH (fM F D);clear D;go_wp2;go_ret;exact⟨rfl,Z⟩
structure uG (w:World) (A:OA) (l:List gj):Prop where
 row:Rd w 3 A l.length (l.flatMap gj.cells)
 all:∀ x∈l,JH w x
 few:l.length<=1000000
theorem uG.below {l:List gj}(h:uG w A l)(z:Bw w w'):uG w' A l:=⟨h.row.below z,fun x D=>(h.all x D).below z,h.few⟩
theorem WD (f:jo->Bool)(l:List gj):(l.any fun x=>f x.plain)=(l.map gj.plain).any f:=by rw[List.any_map];rfl
theorem qS (fmt:Int)(M:iY fmt)(A:OA)(c:Nat)(l:List gj)(a:fP)(w:World)(V:Gl w)(U:uG w A l)(X:sw a):Calls prog 63 #[.int .i64 fmt,.slice A l.length c,a.val] w fun e w'=>e=.returned (.bool (pL fmt (l.map gj.plain) a))/\Bw w w':=by
 obtain⟨F,z⟩:∃ F,(w.alloc (.cells #[.int .i64 fmt] 3)).alloc (.cells #[.string a.nm,.int .i64 a.op,.string a.ver] 78)=F:=⟨_,rfl⟩
 have J:Hid (Bw w F):=by rw[<-z];exact(bR.alloc lr _).alloc (by simp) _
 have Z:Hid (fV F w.heap.size [.int .i64 fmt]):=by show fV _ _ _;rw[<-z];exact(fV.new w [.int .i64 fmt] _).alloc _
 have K1:Hid (fV F (w.heap.size+1) [.string a.nm,.int .i64 a.op,.string a.ver]):=by
  show fV _ _ _;rw[<-z];have:=fV.new (w.alloc (.cells #[.int .i64 fmt] 3)) [.string a.nm,.int .i64 a.op,.string a.ver] 78;simpa using this
 have D:=U.below J.out
 have O:=fH (yG 106 (.pointer (some ⟨w.heap.size,0,none⟩)) (.pointer (some ⟨w.heap.size+1,0,none⟩)) (fun x=>WW fmt a x.plain) A c l F D.row D.few Tryz.call106
  (fH fun x hx W I=>Cb fmt M x a w.heap.size (w.heap.size+1) W (V.below (fM J I)) ((D.all x hx).below I) X ((Z.below I).cell 0 _ rfl) (K1.below I)))
 rw[WD] at O;have Y:Hid (pL fmt (l.map gj.plain) a=(l.map gj.plain).any (WW fmt a)):=rfl;generalize (l.map gj.plain).any (WW fmt a)=R at *;rw[Y.out];clear Y;unfold fP.val;generalize l.length=n at *;have K:=fH z;clear z V U X M D;go_in;go_upto_region 1 with(fail)
 rw[K.out];go_wp2_with fail;refine O.mono ?_;rintro e w2 ⟨rfl,H⟩;have B2:=fH (fM J H);clear H;go_wp2;go_ret;exact⟨rfl,B2⟩
def JI (p:fL):Prop:=∀ a∈kW p,bl a.op=[]/\sw (jr a)
def Bk (set:List jo)(p:fL):Bool:=(kW p).any fun a=>pL 2 set (jr a)
theorem Gp (w:World)(A:OA)(n c:Nat)(z:LV)(D:z.length=5){W1:World}(h:(w.alloc (.cells #[.slice A n c] 42)).alloc (.cells z.toArray 86)=W1):
  Bw w W1/\fV W1 w.heap.size [.slice A n c]/\fV W1 (w.heap.size+1) z:=by
 subst h;refine⟨(bR.alloc lr _).alloc (by simp) _,(fV.new w [.slice A n c] _).alloc _,?_⟩;have:=fV.new (w.alloc (.cells #[.slice A n c] 42)) z 86;simpa using this
theorem JJ (A:OA)(c:Nat)(l:List gj)(T:fL)(w:World)(Z:Gl w)(Y:uG w A l)(O:bl T.op=[])(ha:sw (jr T)):Calls prog 62 #[.slice A l.length c,T.val] w fun e w'=>e=.returned (.bool (pL 2 (l.map gj.plain) (jr T)))/\Bw w w':=by
 have H:=fH fun W M=>qS 2 (.inr (.inl rfl)) A c l (jr T) W (Z.below M) (Y.below M) ha;have D:T.op=⟨#[]⟩:=kG O;generalize pL 2 (l.map gj.plain) (jr T)=R at *;unfold fP.val jr at H;unfold fL.val;rw[D];clear Z Y O ha D;simp only at H;generalize T.nm=nm at *;generalize T.aop=aop at *;generalize T.ver=ver at *;generalize T.ka=ka at *;generalize T.kids.length=kl at *;generalize T.kc=kc at *;generalize l.length=n at *;obtain⟨V,z⟩:∃ V,(w.alloc (.cells #[.slice A n c] 42)).alloc (.cells #[.string ⟨#[]⟩,.string nm,.int .i64 aop,.string ver,.slice ka kl kc] 86)=V:=⟨_,rfl⟩
 obtain⟨K,U,J⟩:=Gp w A n c [.string ⟨#[]⟩,.string nm,.int .i64 aop,.string ver,.slice ka kl kc] rfl z;have X:=fH K;have a0:=U.cell 0 _ rfl;obtain⟨e0,e1,e2,e3⟩:=ZX J.cell;have I:=fH z;clear z K U J;go_in;go_upto_region 1 with(fail)
 rw[I.out];go_wp2_with fail;refine mb (H _ X) ?_;rintro w2 F;have B2:=fH (fM X F);clear F;go_wp2;go_ret;exact⟨rfl,B2⟩
theorem WE (A:OA)(c q:Nat)(n:Nat)(T:fL)(R:Bool)(w:World)(J:w.cell? ⟨q,0,none⟩=some (.slice A n c))
  (D:∀ W,Bw w W->Calls prog 62 #[.slice A n c,T.val] W fun e w'=>e=.returned (.bool R)/\Bw W w'):Calls prog 101 #[T.val,.pointer (some ⟨q,0,none⟩)] w fun e w'=>e=.returned (.bool R)/\Bw w w':=by
 have H:=fH D;unfold fL.val at H;unfold fL.val;have I:=World.block_lt_of_cell? _ _ J;simp only at I;clear D;generalize T.op=op at *;generalize T.nm=nm at *;generalize T.aop=aop at *;generalize T.ver=ver at *;generalize T.ka=ka at *;generalize T.kids.length=kl at *;generalize T.kc=kc at *;have F:Hid (Bw w (w.alloc (.cells #[.string op,.string nm,.int .i64 aop,.string ver,.slice ka kl kc] 86))):=bR.alloc lr _;go_in;go_wp2_with fail;refine mb (H _ F) ?_;rintro M z;have K:=fH (fM F z);clear z;go_wp2;go_ret;exact⟨rfl,K⟩
theorem WF (A:OA)(c q:Nat)(n:Nat)(T:fL)(R:Bool)(w:World)(J:w.cell? ⟨q,0,none⟩=some (.slice A n c))
  (D:∀ W,Bw w W->Calls prog 62 #[.slice A n c,T.val] W fun e w'=>e=.returned (.bool R)/\Bw W w'):Calls prog 102 #[T.val,.pointer (some ⟨q,0,none⟩)] w fun e w'=>e=.returned (.bool (!R))/\Bw w w':=by
 have H:=fH D;unfold fL.val at H;unfold fL.val;have I:=World.block_lt_of_cell? _ _ J;simp only at I;clear D;generalize T.op=op at *;generalize T.nm=nm at *;generalize T.aop=aop at *;generalize T.ver=ver at *;generalize T.ka=ka at *;generalize T.kids.length=kl at *;generalize T.kc=kc at *;have F:Hid (Bw w (w.alloc (.cells #[.string op,.string nm,.int .i64 aop,.string ver,.slice ka kl kc] 86))):=bR.alloc lr _;go_in;go_wp2_with fail;refine mb (H _ F) ?_;rintro M z;have K:=fH (fM F z);clear z;go_wp2;go_ret;exact⟨rfl,K⟩
theorem abD (A:OA)(c:Nat)(n:Nat)(T:fL)(p:fL->Bool)(w:World)(Y:bl T.op=kT)(hr:Rd w 5 T.ka T.kids.length (T.kids.flatMap fL.cells))(Z:T.kids.length<=1000000)
  (X:∀ k∈T.kids,∀ W,Bw w W->Calls prog 62 #[.slice A n c,k.val] W fun e w'=>e=.returned (.bool (p k))/\Bw W w'):Calls prog 62 #[.slice A n c,T.val] w fun e w'=>e=.returned (.bool (T.kids.any p))/\Bw w w':=by
 have D:T.op=⟨#[111,114]⟩:=kG Y;obtain⟨M,z⟩:∃ M,(w.alloc (.cells #[.slice A n c] 42)).alloc (.cells #[.string ⟨#[111,114]⟩,.string T.nm,.int .i64 T.aop,.string T.ver,.slice T.ka T.kids.length T.kc] 86)=M:=⟨_,rfl⟩
 obtain⟨H,K,I⟩:=Gp w A n c [.string ⟨#[111,114]⟩,.string T.nm,.int .i64 T.aop,.string T.ver,.slice T.ka T.kids.length T.kc] rfl z
 have CF:=fH (rq 101 (.pointer (some ⟨w.heap.size,0,none⟩)) p T.ka T.kc T.kids M (hr.below H) Z Tryz.call101
  (fH fun k J W V=>WE A c w.heap.size n k (p k) W ((K.below V).cell 0 _ rfl) fun W' U=>X k J W' (fM H (fM V U))))
 unfold fL.val;rw[D];generalize T.kids.any p=R at *;have B1:=fH H;have a0:=K.cell 0 _ rfl;have e0:=I.cell 0 _ rfl;have e4:=I.cell 4 _ rfl;have O:=fH z;clear z H K I D Y hr Z X;generalize T.nm=nm at *;generalize T.aop=aop at *;generalize T.ver=ver at *;generalize T.ka=ka at *;generalize T.kids.length=kl at *;generalize T.kc=kc at *;go_in;go_upto_region 1 with(fail)
 rw[O.out];go_wp2_with fail;refine CF.mono ?_;rintro e w2 ⟨rfl,F⟩;have B2:=fH (fM B1 F);clear F;go_wp2;go_ret;exact⟨rfl,B2⟩
theorem ZI (A:OA)(c:Nat)(n:Nat)(T:fL)(p:fL->Bool)(w:World)(Y:bl T.op=lh)(hr:Rd w 5 T.ka T.kids.length (T.kids.flatMap fL.cells))(Z:T.kids.length<=1000000)
  (X:∀ k∈T.kids,∀ W,Bw w W->Calls prog 62 #[.slice A n c,k.val] W fun e w'=>e=.returned (.bool (p k))/\Bw W w'):Calls prog 62 #[.slice A n c,T.val] w fun e w'=>e=.returned (.bool (!(T.kids.any fun k=>!p k)))/\Bw w w':=by
 have D:T.op=⟨#[97,110,100]⟩:=kG Y;obtain⟨M,z⟩:∃ M,(w.alloc (.cells #[.slice A n c] 42)).alloc (.cells #[.string ⟨#[97,110,100]⟩,.string T.nm,.int .i64 T.aop,.string T.ver,.slice T.ka T.kids.length T.kc] 86)=M:=⟨_,rfl⟩
 obtain⟨H,K,I⟩:=Gp w A n c [.string ⟨#[97,110,100]⟩,.string T.nm,.int .i64 T.aop,.string T.ver,.slice T.ka T.kids.length T.kc] rfl z
 have CF:=fH (rq 102 (.pointer (some ⟨w.heap.size,0,none⟩)) (fun k=>!p k) T.ka T.kc T.kids M (hr.below H) Z Tryz.call102
  (fH fun k J W V=>WF A c w.heap.size n k (p k) W ((K.below V).cell 0 _ rfl) fun W' U=>X k J W' (fM H (fM V U))))
 unfold fL.val;rw[D];generalize (T.kids.any fun k=>!p k)=R at *;have B1:=fH H;have a0:=K.cell 0 _ rfl;have e0:=I.cell 0 _ rfl;have e4:=I.cell 4 _ rfl;have O:=fH z;clear z H K I D Y hr Z X;generalize T.nm=nm at *;generalize T.aop=aop at *;generalize T.ver=ver at *;generalize T.ka=ka at *;generalize T.kids.length=kl at *;generalize T.kc=kc at *;go_in;go_upto_region 1 with(fail)
 rw[O.out];go_wp2_with fail;refine CF.mono ?_;rintro e w2 ⟨rfl,F⟩;have B2:=fH (fM B1 F);clear F;go_wp2;go_ret;exact⟨rfl,B2⟩
theorem JK (A:OA)(c:Nat)(l:List gj)(T:fL)(w:World)(J:Gl w)(I:uG w A l)(O:He w T)(U:T.kids.length<=1000000)(z:JI T):Calls prog 62 #[.slice A l.length c,T.val] w fun e w'=>e=.returned (.bool (Bk (l.map gj.plain) T))/\Bw w w':=by
 unfold JI Bk kW at *;by_cases F:bl T.op=kT
 ·rw[if_pos F] at z |-;exact abD A c l.length T _ w F O.row U fun k H W D=>JJ A c l k W (J.below D) (I.below D) (z k H).1 (z k H).2
 ·rw[if_neg F] at z |-;obtain⟨R,M⟩:=z T (by simp);refine(JJ A c l T w J I R M).mono fun e w' ⟨K,D⟩=>⟨?_,D⟩
  rw[K];simp
theorem ZJ (A:OA)(c:Nat)(l:List gj)(T:fL)(w:World)(M:Gl w)(K:uG w A l)(J:He w T)(R:T.cnt<=64)(D:∀ p∈iM T,JI p):Calls prog 62 #[.slice A l.length c,T.val] w fun e w'=>e=.returned (.bool ((iM T).all (Bk (l.map gj.plain))))/\Bw w w':=by
 obtain⟨U,O⟩:=uu R;unfold iM at *;by_cases H:bl T.op=lh
 ·rw[if_pos H] at D |-;refine(ZI A c l.length T (Bk (l.map gj.plain)) w H J.row (by omega) fun k F W z=>JK A c l k W (M.below z) (K.below z) ((J.kids k F).low z) (by have:=(uu (O k F)).1;omega) (D k F)).mono fun e w' ⟨I,z⟩=>⟨?_,z⟩
  rw[I];congr 2;rw[bI];simp
 ·rw[if_neg H] at D |-;refine(JK A c l T w M K J (by omega) (D T (by simp))).mono fun e w' ⟨I,z⟩=>⟨?_,z⟩
  rw[I];simp
theorem Af {α:Type}{f:α->Bool}{l:List α}{x:α}(h:(l.take k).all f=true)(D:l[k]?=some x)(z:f x=true):(l.take (k+1)).all f=true:=by
 rw[gC D,List.all_append,h];simp[z]
theorem RY {α:Type}{f:α->Bool}{l:List α}{x:α}(D:x∈l)(z:f x=false):l.all f=false:=by
 rw[Bool.eq_false_iff];intro h;rw[List.all_eq_true.1 h x D] at z;cases z
theorem Lt {α:Type}{f:α->Bool}{l:List α}(h:(l.take k).all f=true)(z:¬ k<l.length):l.all f=true:=by rwa [tL (by omega)] at h
theorem Ag (A:OA)(c q:Nat)(l:List gj)(t:iK)(w:World)(K:Gl w)(J:uG w A l)(ht:sw (oD t))(V:w.cell? ⟨q,0,none⟩=some (.slice A l.length c)):Calls prog 99 #[t.val,.pointer (some ⟨q,0,none⟩)] w fun e w'=>e=.returned (.bool (pL 1 (l.map gj.plain) (oD t)))/\Bw w w':=by
 have F:=fH fun W I=>qS 1 (.inl rfl) A c l (oD t) W (K.below I) (J.below I) ht;generalize pL 1 (l.map gj.plain) (oD t)=R at *;have O:=World.block_lt_of_cell? _ _ V;simp only at O;obtain⟨nm,op,ver,M,Y,U,z⟩:=t;unfold fP.val oD at F;unfold iK.val;simp only at F |-;clear K J ht;generalize l.length=n at *;generalize z.length=al at *;have H:Hid (Bw w (w.alloc (.cells #[.string nm,.int .i64 op,.string ver,.string M,.slice Y al U] 196))):=bR.alloc lr _;go_in;go_wp2_with fail;refine mb (F _ H) ?_;rintro Z D;have X:=fH (fM H D);clear D;go_wp2;go_ret;exact⟨rfl,X⟩
def Gq (set:List jo)(bar:Bool)(g:gA):Bool:=(g.ts.any fun t=>pL 1 set (oD t)) != bar
theorem Cc (A:OA)(c:Nat)(l:List gj)(B:OA)(d:Nat)(z:List gA)(bar:Bool)(w:World)(hG:Gl w)(hs:uG w A l)(hr:rQ w B z)(hl:z.length<=1000000)(hz:∀ g∈z,g.ts.length<=1000000/\∀ t∈g.ts,sw (oD t)):Calls prog 61 #[.slice A l.length c,.slice B z.length d,.bool bar] w fun e w'=>e=.returned (.bool (z.all (Gq (l.map gj.plain) bar)))/\Bw w w':=by
 have HG:=fH hG;have HS:=fH hs;have HR:=fH hr;have HZ:=fH hz;obtain⟨F,D⟩:∃ F,w.alloc (.cells #[.slice A l.length c] 42)=F:=⟨_,rfl⟩
 have K:Hid (Bw w F):=by rw[<-D];exact bR.alloc lr _
 have K1:Hid (fV F w.heap.size [.slice A l.length c]):=by show fV _ _ _;rw[<-D];exact fV.new w [.slice A l.length c] _
 have CF:=fH fun (g:gA) (hg:g∈z) W (hb:Bw F W)=>yH 99 (.pointer (some ⟨w.heap.size,0,none⟩)) (fun t=>pL 1 (l.map gj.plain) (oD t)) g.ga g.gc g.ts W (((HR.grp g hg).below K).below hb) (HZ g hg).1 Tryz.call99
  (fH fun t ht W' J=>Ag A c w.heap.size l t W' (HG.below (fM K (fM hb J))) (HS.below (fM K (fM hb J))) ((HZ g hg).2 t ht) ((K1.below (fM hb J)).cell 0 _ rfl))
 have a0:=K1.cell 0 _ rfl;have Y:=fH D;clear D hG hs hr hz;generalize l.length=n at *;go_in;go_upto_region 1 with(fail)
 rw[Y.out];clear a0;go_wp2;go_loopw [13] (fun i wr=>∃ k:Nat,k<=z.length/\i=.int .i64 k/\Hid ((z.take k).all (Gq (l.map gj.plain) bar)=true)/\Hid (Bw F wr)) (fun i _=>z.length-(intOf i).toNat)
 case atStart=>exact⟨0,z0,rfl,by simp[Hid],bR⟩
 case round=>
  obtain⟨k,hk,rfl,HN,U⟩:=hrel;by_cases H:k<z.length
  ·obtain⟨x,V⟩:∃ x,z[k]?=some x:=⟨_,gG H⟩
   obtain⟨b,off,hA,he⟩:=((HR.row.below K).below U).2 (by omega);have e0:=he k x.sl (by rw[List.getElem?_map,V];rfl);have M:=fun W=>gi (T:=83) (E:=198) (sz:=1) (c:=d) underlying83 rfl sizeOf198 hA H W;simp only[Nat.mul_one] at M;unfold gA.sl at e0;have HX:=fH V;have Z:=fH (CF x (gM V));obtain⟨r,I⟩:∃ r,(x.ts.any fun t=>pL 1 (l.map gj.plain) (oD t))=r:=⟨_,rfl⟩
   rw[I] at Z;have GV:Hid (Gq (l.map gj.plain) bar x=(r != bar)):=by show _=_;unfold Gq;rw[I]
   clear V hA he I;generalize x.ts.length=xl at *;generalize x.ga=xa at *;generalize x.gc=xc at *;go_wp2_with fail;refine mb (Z _ U) ?_;rintro w2 O;have B2:=fH (fM U O);clear O e0 M Z;by_cases R:r=bar
   ·subst R;have E:Hid (z.all (Gq (l.map gj.plain) r)=false):=RY (gM HX) (by rw[GV.out];cases r<;>rfl);have q:(r==r)=true:=by simp
    have X:=fH (fM K B2);cases r
    all_goals
     go_wp2;go_ret;exact⟨fJ E.out.symm,X⟩
   ·have GT:Hid ((z.take (k+1)).all (Gq (l.map gj.plain) bar)=true):=Af HN HX (by rw[GV.out];simpa [bne] using R);have q:(r==bar)=false:=by simpa using R
    clear R;cases r<;>cases bar
    all_goals first
     | (exfalso;revert q;decide)
     | (go_wp2
        go_roundw
        case rel=>exact⟨k+1,by omega,by go_num,GT,B2⟩
        case measure=>simp[intOf];omega)
  ·have E:Hid (z.all (Gq (l.map gj.plain) bar)=true):=Lt HN H;have X:=fH (fM K U);go_wp2;go_ret;exact⟨fJ E.out.symm,X⟩
theorem R9 (A:OA)(c:Nat)(l:List gj)(F:OA)(I:Nat)(T:fL)(M:OA)(J K:Nat)(z:List gA)(bar:Bool)(w:World)(Y:Gl w)(X:uG w A l)(U:rQ w F z)(Z:z.length<=1000000)(O:∀ g∈z,g.ts.length<=1000000/\∀ t∈g.ts,sw (oD t)):Calls prog 32 #[.int .i64 1,.slice A l.length c,zO F z.length I T M J K,.bool bar] w fun e w'=>e=.returned (.bool (z.all (Gq (l.map gj.plain) bar)))/\Bw w w':=by
 have HA:=fH fun W H=>Cc A c l F I z bar W (Y.below H) (X.below H) (U.below H) Z O;generalize z.all (Gq (l.map gj.plain) bar)=R at *;unfold zO;clear Y X U O;generalize T.op=op at *;generalize T.nm=nm at *;generalize T.aop=aop at *;generalize T.ver=ver at *;generalize T.ka=ka at *;generalize T.kids.length=kl at *;generalize T.kc=kc at *;generalize l.length=n at *;generalize z.length=m at *;have V:Hid (Bw w (w.alloc (.cells #[.slice F m I,.string op,.string nm,.int .i64 aop,.string ver,.slice ka kl kc,.slice M J K] 89))):=bR.alloc lr _;go_in;go_wp2_with fail;refine mb (HA _ V) ?_;rintro w2 D;have B2:=fH (fM V D);clear D;go_wp2;go_ret;exact⟨rfl,B2⟩
theorem Gr (A:OA)(c:Nat)(l:List gj)(Y:OA)(I tc:Nat)(T:fL)(J:OA)(F H:Nat)(bar:Bool)(w:World)(X:Gl w)(U:uG w A l)(M:He w T)(Z:T.cnt<=64)(K:∀ p∈iM T,JI p):Calls prog 32 #[.int .i64 2,.slice A l.length c,zO Y I tc T J F H,.bool bar] w fun e w'=>e=.returned (.bool (((iM T).all (Bk (l.map gj.plain))) != bar))/\Bw w w':=by
 have V:=fH fun W D=>ZJ A c l T W (X.below D) (U.below D) (M.low D) Z K;generalize (iM T).all (Bk (l.map gj.plain))=R at *;unfold fL.val at V;unfold zO;clear X U M K Z;generalize T.op=op at *;generalize T.nm=nm at *;generalize T.aop=aop at *;generalize T.ver=ver at *;generalize T.ka=ka at *;generalize T.kids.length=kl at *;generalize T.kc=kc at *;generalize l.length=n at *;have O:Hid (Bw w (w.alloc (.cells #[.slice Y I tc,.string op,.string nm,.int .i64 aop,.string ver,.slice ka kl kc,.slice J F H] 89))):=bR.alloc lr _;go_in;go_wp2_with fail;refine mb (V _ O) ?_;rintro w2 z;have B2:=fH (fM O z);clear z;go_wp2;go_ret;exact⟨rfl,B2⟩
def yI (set:List jo)(bar:Bool)(x:jP):Bool:=pL 3 set (nH x) != (bar||x.no)
theorem Sa (A:OA)(c:Nat)(l:List gj)(tA:OA)(tn tc:Nat)(T:fL)(tB:OA)(td:Nat)(L:List jP)(bar:Bool)(w:World)(hG:Gl w)(hs:uG w A l)(hr:Rd w 4 tB L.length (L.flatMap jP.cells))(hl:L.length<=1000000)(hz:∀ x∈L,sw (nH x)):Calls prog 32 #[.int .i64 3,.slice A l.length c,zO tA tn tc T tB L.length td,.bool bar] w fun e w'=>e=.returned (.bool (L.all (yI (l.map gj.plain) bar)))/\Bw w w':=by
 have HG:=fH hG;have HS:=fH hs;have HR:=fH hr;have HZ:=fH hz;unfold zO;clear hG hs hr hz;generalize T.op=op at *;generalize T.nm=nm at *;generalize T.aop=aop at *;generalize T.ver=ver at *;generalize T.ka=ka at *;generalize T.kids.length=kl at *;generalize T.kc=kc at *;have B1:Hid (Bw w (w.alloc (.cells #[.slice tA tn tc,.string op,.string nm,.int .i64 aop,.string ver,.slice ka kl kc,.slice tB L.length td] 89))):=bR.alloc lr _;go_in;go_wp2;go_loopw [30] (fun i wr=>∃ k:Nat,k<=L.length/\i=.int .i64 k/\Hid ((L.take k).all (yI (l.map gj.plain) bar)=true)/\Hid (Bw w wr)) (fun i _=>L.length-(intOf i).toNat)
 case atStart=>exact⟨0,z0,rfl,by simp[Hid],B1⟩
 case round=>
  clear B1;obtain⟨k,hk,rfl,HN,HB⟩:=hrel;by_cases H:k<L.length
  ·obtain⟨x,hx⟩:∃ x,L[k]?=some x:=⟨_,gG H⟩
   obtain⟨b,off,hA,he⟩:=(HR.below HB).elem Ci k x hx;obtain⟨e0,e1,e2,e3⟩:=ZX he;simp only[Nat.add_zero] at e0;have ab:=fun W=>gi (T:=87) (E:=142) (sz:=4) (c:=td) underlying87 rfl sizeOf142 hA H W;have HX:=fH hx;have F:=fH fun W hb=>qS 3 (.inr (.inr rfl)) A c l (nH x) W (HG.below hb) (HS.below hb) (HZ x (gM hx));obtain⟨r,I⟩:∃ r,pL 3 (l.map gj.plain) (nH x)=r:=⟨_,rfl⟩
   rw[I] at F;have WV:Hid (yI (l.map gj.plain) bar x=(r != (bar||x.no))):=by show _=_;unfold yI;rw[I]
   unfold fP.val nH at F;simp only at F;obtain⟨D,R⟩:∃ D,x.no=D:=⟨_,rfl⟩
   obtain⟨K,Z⟩:∃ nm,gX x.name=nm:=⟨_,rfl⟩
   obtain⟨U,O⟩:∃ U,gX x.ver=U:=⟨_,rfl⟩
   obtain⟨xo,Y⟩:∃ xo:Int,(x.op:Int)=xo:=⟨_,rfl⟩
   rw[R] at e0 WV;rw[Z] at e1 F;rw[O] at e3 F;rw[Y] at e2 F;clear hx hA he I R Z O Y;obtain⟨V,z⟩:∃ V,wr.alloc (.cells #[.bool D,.string K,.int .i64 xo,.string U] 142)=V:=⟨_,rfl⟩
   have aa:Hid (Bw wr V):=by rw[<-z];exact bR.alloc lr _
   have K2:Hid (fV V wr.heap.size [.bool D,.string K,.int .i64 xo,.string U]):=by show fV _ _ _;rw[<-z];exact fV.new wr [.bool D,.string K,.int .i64 xo,.string U] _
   obtain⟨k0,k1,k2,k3⟩:=ZX K2.cell;have X:wr.heap.size<V.heap.size:=K2.sz;have B2:=fH (fM HB aa);have ac:=fH z;clear z aa;go_upto_region 9 with(fail)
   rw[ac.out];go_wp2_with fail;refine mb (F _ B2) ?_;rintro w3 J;have d0:w3.cell? ⟨wr.heap.size,0,none⟩=some (.bool D):=(J.cell (p:=⟨wr.heap.size,0,none⟩) X).trans k0;have B3:=fH (fM B2 J);clear J e0 e1 e2 e3 ab F k0 k1 k2 k3 K2;by_cases M:r=(bar||D)
   ·have E:Hid (L.all (yI (l.map gj.plain) bar)=false):=RY (gM HX) (by rw[WV.out,M];simp);cases bar<;>cases D<;>cases r
    all_goals first
     | (exfalso;revert M;decide)
     | (clear M
        go_wp2;go_ret;exact⟨fJ E.out.symm,B3⟩)
   ·have GT:Hid ((L.take (k+1)).all (yI (l.map gj.plain) bar)=true):=Af HN HX (by rw[WV.out];simpa [bne] using M);cases bar<;>cases D<;>cases r
    all_goals first
     | (exfalso;revert M;decide)
     | (clear M
        go_wp2;go_roundw
        case rel=>exact⟨k+1,by omega,by go_num,GT,B3⟩
        case measure=>simp[intOf];omega)
  ·have E:Hid (L.all (yI (l.map gj.plain) bar)=true):=Lt HN H;go_wp2;go_ret;exact⟨fJ E.out.symm,HB⟩
end
end Go.Proofs.YtkmjcombhjombaaGreatDoor
