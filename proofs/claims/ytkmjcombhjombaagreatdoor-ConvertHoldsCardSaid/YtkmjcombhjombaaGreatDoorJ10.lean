/- A part of the proof. -/
import Derived.Test.YtkmjcombhjombaaGreatDoorJ06
import Derived.Test.YtkmjcombhjombaaGreatDoorJ07
set_option maxRecDepth 100000
set_option maxHeartbeats 20000000
set_option linter.unusedVariables false
set_option linter.unusedSimpArgs false
namespace Go.Proofs.YtkmjcombhjombaaGreatDoor
variable{s:BA}{fmt:Int}{a b l p r:LU}{c n:Nat}{A:OA}{x:UInt8}{w w' wr:World}
open Go.Proofs.Tryz
section
open Go.RowKit
theorem Ix (h:gL fmt s=0):s.size<=64:=by
 unfold gL at h;split at h
 ·simp at h
 ·split at h
  ·simp at h
  ·omega
theorem Uw (h:jU l=true):l.length<=64:=by
 rw[Uk] at h;simp at h;omega
theorem jP.right.sizes {x:jP}(h:x.right):x.name.length<=64/\x.ver.length<=64:=by
 obtain⟨F,I,H,D⟩:=h;refine⟨Uw F,?_⟩;by_cases z:x.op=0
 ·rw[H z];simp
 ·have:=Ix (D (by omega));rw[iB] at this;exact this
theorem PW (x:jP)(X:x.right)(w:World)(Z:Gl w):Calls prog 242 #[.agg #[.string (gX x.name),.int .i64 x.op,.string (gX x.ver)]] w fun e w'=>e=.returned (.int .i64 0)/\Bw w w':=by
 obtain⟨R,O⟩:=X.sizes;obtain⟨U,M,F,D⟩:=X;have HG:=fH Z;clear Z;have Y:jU (bl (gX x.name))=true:=by rw[iS];exact U
 have s1:(gX x.name).size<=64:=by rw[iB];exact R
 have s2:(gX x.ver).size<=64:=by rw[iB];exact O
 have J:=fun W=>yQ (gX x.name) W (by omega);rw[Y] at J;clear Y U R O;generalize gX x.name=N at *;by_cases H:x.op=0
 ·have z:gX x.ver=⟨#[]⟩:=by rw[F H];rfl
  rw[z,H];clear M F D s2 z H;go_in;go_wp2_with fail;refine mb (J _) ?_;rintro w' rfl;go_wp2;go_ret;exact⟨rfl,bR.alloc lr _⟩
 ·have z:=D (by omega);have o1:decide ((x.op:Int)<0)=false:=dF (by omega);have o2:decide ((6:Int)<(x.op:Int))=false:=dF (by omega);have o3:((x.op:Int)==0)=false:=by simp;omega
  have K:=fun W hW=>gP 3 (gX x.ver) W hW (by omega);rw[z] at K;clear M F D z;generalize gX x.ver=V at *;go_in;go_wp2_with fail;refine mb (J _) ?_;rintro w' rfl;go_wp2_with fail;refine mb (K _ (HG.alloc _)) ?_;rintro w1 I;go_wp2;go_ret;exact⟨rfl,(bR.alloc lr _).trans (I.mono (by simp))⟩
theorem PX (A:OA)(c:Nat)(L:List jP)(K:∀ x∈L,x.right)(aa:L.length<=64)(w:World)(U:Gl w)(O:Rd w 4 A L.length (L.flatMap jP.cells)):Calls prog 196 #[.slice A L.length c] w fun e w'=>e=.returned (.int .i64 0)/\Bw w w':=by
 have Y:=fH U;have HR:=fH O;have HL:=fH K;clear U O K;go_in;go_wp2;go_loopw [11] (fun i wr=>∃ k:Nat,k<=L.length/\i=.int .i64 k/\Hid (Bw w wr)) (fun i _=>L.length-(intOf i).toNat)
 case atStart=>exact⟨0,z0,rfl,bR⟩
 case round=>
  obtain⟨k,hk,rfl,F⟩:=hrel;by_cases z:k<L.length
  ·obtain⟨x,I⟩:∃ x,L[k]?=some x:=⟨_,gG z⟩
   obtain⟨b,off,M,V⟩:=(HR.below F).elem Ci k x I;obtain⟨J,e1,Z,e3⟩:=ZX V;simp only[Nat.add_zero] at J;have H:=fun W=>gi (T:=87) (E:=142) (sz:=4) (c:=c) underlying87 rfl sizeOf142 M z W;have HX:=fH (HL x (gM I));clear I V M;go_wp2_with fail;have R:=fH (F.alloc F.size (.cells #[.bool x.no,.string (gX x.name),.int .i64 x.op,.string (gX x.ver)] 142));refine mb (PW x HX _ (Y.below R)) ?_;rintro X D;have B2:Hid (Bw w X):=fM R D;clear D J e1 Z e3 H;go_wp2;go_roundw
   case rel=>exact⟨k+1,by omega,by go_num,B2⟩
   case measure=>simp[intOf];omega
  ·go_wp2;go_ret;exact⟨rfl,F⟩
theorem xG (A:OA)(c:Nat)(D:List BA)(z:BA)(w:World)(K:Rd w 1 A D.length (strCells D))(U:D.length<=c)(X:D.length<=140737488355328)(H:(Lib.join (D.map bl) (bl z)).length<=140737488355328):Calls prog 193 #[.slice A D.length c,.string z] w fun e w'=>e=.returned (.string (gX (Lib.join (D.map bl) (bl z))))/\Bw w w':=by
 by_cases O:D.length=0
 ·have:D=[]:=List.length_eq_zero_iff.1 O;subst this;exact(Tryz.strings_Join_none A c z w).mono fun _ _ ⟨J,I⟩=>⟨J,by rw[I];exact bR⟩
 ·obtain⟨b,off,rfl,F⟩:=K.2 (by omega);have R:b<w.heap.size:=by
   have M:=F 0 (.string D[0]) (by simp[strCells]);exact World.block_lt_of_cell? _ _ M
  exact(Tryz.strings_Join b off c D z w (fun j x V=>F j _ (by simp[strCells,V])) R X U H).mono fun _ _ ⟨J,I⟩=>⟨J,I⟩
end
structure gQ where
 ep:Nat
 nums:List Nat
 lt:LU
 pre:LU
 pnum:Nat
 rev:Nat
def jg:List (LU):=[[97,108,112,104,97],[98,101,116,97],[112,114,101],[114,99]]
def vI (fmt:Int):UInt8:=if fmt=3 then 95 else 126
def jD (fmt:Int):LU:=if fmt=3 then [45,114] else [45]
def rC (fmt:Int)(c:gQ):LU:=if fmt=3\/c.ep=0 then [] else fU c.ep++[58]
def nL (c:gQ):LU:=iy 46 (c.nums.map fU)
def jd (fmt:Int)(c:gQ):LU:=if c.pre=[] then [] else vI fmt::(c.pre++fU c.pnum)
def ig (fmt:Int)(c:gQ):LU:=nL c++(c.lt++jd fmt c)
def gH (fmt:Int)(c:gQ):LU:=rC fmt c++(ig fmt c++(jD fmt++fU c.rev))
structure gQ.ok (c:gQ):Prop where
 nums:c.nums≠[]
 each:∀ n∈c.nums,n<=999999999
 ep:c.ep<=999999999
 pnum:c.pnum<=999999999
 rev:c.rev<=999999999
 lt:c.lt=[]\/∃ b,c.lt=[b]/\it b=true
 pre:(c.pre=[]/\c.pnum=0)\/c.pre∈jg
 short:(gH 1 c).length<=64
theorem AE:gf 58=false:=by decide
theorem abP:gf 45=false:=by decide
theorem mR (n:Nat)(h:gf x=false):x ∉ fU n:=aav (iW n) h
theorem mI {w:LU}(h:w∈jg):w.all it=true:=by
 simp only[jg,List.mem_cons,List.not_mem_nil,or_false] at h;rcases h with rfl | rfl | rfl | rfl<;>decide
theorem aaw {w:LU}(h:w∈jg):w≠[]:=by
 simp only[jg,List.mem_cons,List.not_mem_nil,or_false] at h;rcases h with rfl | rfl | rfl | rfl<;>simp
theorem Yj (h:l.all it=true)(z:it x=false):x ∉ l:=by
 intro D;rw[List.all_eq_true] at h;rw[h x D] at z;cases z
theorem SD (c:gQ)(h:gf x=false)(z:x≠46):x ∉ nL c:=by
 intro D;rcases zu 46 _ x D with e | ⟨l,F,H⟩
 ·exact z e
 ·obtain⟨n,_,rfl⟩:=List.mem_map.1 F;exact mR n h H
theorem abQ {c:gQ}(ok:c.ok)(h:it x=false):x ∉ c.lt:=by
 rcases ok.lt with e | ⟨b,e,z⟩
 ·rw[e];simp
 ·rw[e];intro D;rw[List.mem_singleton.1 D] at h;rw[h] at z;cases z
theorem SE {c:gQ}(ok:c.ok):c.pre.all it=true:=by
 rcases ok.pre with⟨e,_⟩ | h
 ·rw[e];rfl
 ·exact mI h
theorem aax {c:gQ}(ok:c.ok)(h:it x=false)(z:gf x=false)(D:x≠vI fmt):x ∉ jd fmt c:=by
 unfold jd;split
 ·simp
 ·rw[List.mem_cons,List.mem_append];rintro(e | e | e)
  ·exact D e
  ·exact Yj (SE ok) h e
  ·exact mR _ z e
theorem Qz (fmt:Int):vI fmt≠58/\vI fmt≠45/\vI fmt≠46/\gf (vI fmt)=false/\it (vI fmt)=false:=by
 unfold vI;split<;>decide
theorem SF {c:gQ}(ok:c.ok)(h:it x=false)(D:gf x=false)(F:x≠vI fmt)(z:x≠46):x ∉ ig fmt c:=by
 unfold ig;rw[List.mem_append,List.mem_append];rintro(e | e | e)
 ·exact SD c D z e
 ·exact abQ ok h e
 ·exact aax ok h D F e
theorem Cq {c:gQ}(ok:c.ok):(58:UInt8) ∉ ig fmt c:=SF ok (by decide) (by decide) (Qz fmt).1.symm (by decide)
theorem SG {c:gQ}(ok:c.ok):(45:UInt8) ∉ ig fmt c:=SF ok (by decide) (by decide) (Qz fmt).2.1.symm (by decide)
theorem sT (b:LU)(h:x ∉ a):Lib.cut (a++x::b) [x]=(a,b,true):=by
 have:=Xl (c:=x) (a++x::b) a.length (by simp[h]) (by simp);rw[this];simp
theorem Ev (h:x ∉ a):Lib.cut a [x]=(a,[],false):=Mf a (by simpa using h)
theorem IW (a b:LU)(h:x ∉ b):ll x (a++x::b)=some a.length:=by
 refine sI x _ _ (by simp) (fun j z e=>?_);rw[List.getElem?_append_right (by omega)] at e;have:(x::b)[j-a.length]?=some x:=e;rw[show j-a.length=(j-a.length-1)+1 by omega,List.getElem?_cons_succ] at this;exact h (gM this)
def Cr (fmt:Int)(c:gQ):LU:=if fmt=3\/c.ep=0 then [] else fU c.ep
theorem act {c:gQ}(ok:c.ok){x:LU×LU×LU}(h:mg (gH 1 c)=some x):x=(Cr 1 c,ig 1 c,fU c.rev):=by
 have M:jD 1=[45]:=rfl;have D:∀ y,nD (ig 1 c++(jD 1++fU c.rev))=some y->y=(ig 1 c,fU c.rev):=by
  intro y z;rw[M,List.singleton_append] at z;unfold nD at z;rw[IW _ _ (mR _ abP)] at z;simp only at z;split at z
  ·injection z with z;rw[<-z];simp
  ·cases z
 have H:(58:UInt8) ∉ ig 1 c++(jD 1++fU c.rev):=by
  rw[List.mem_append,List.mem_append];rintro(e | e | e)
  ·exact Cq ok e
  ·rw[M] at e;simp at e
  ·exact mR _ AE e
 unfold mg at h;by_cases F:c.ep=0
 ·have J:rC 1 c=[]:=by unfold rC;rw[if_pos (.inr F)]
  have K:Cr 1 c=[]:=by unfold Cr;rw[if_pos (.inr F)]
  have I:kO (gH 1 c)=some ([],ig 1 c++(jD 1++fU c.rev)):=by
   unfold kO gH;rw[J,List.nil_append,Ev H];simp
  rw[I] at h;simp only at h;cases hr:nD (ig 1 c++(jD 1++fU c.rev)) with
  | none=>rw[hr] at h;cases h
  | some y=>rw[hr,D y hr] at h;simp only[Option.map_some,Option.some.injEq] at h;rw[<-h,K]
 ·have J:rC 1 c=fU c.ep++[58]:=by unfold rC;rw[if_neg (by simp[F])]
  have K:Cr 1 c=fU c.ep:=by unfold Cr;rw[if_neg (by simp[F])]
  have I:∀ y,kO (gH 1 c)=some y->y=(fU c.ep,ig 1 c++(jD 1++fU c.rev)):=by
   intro y z;unfold kO gH at z;rw[J,List.append_assoc,List.singleton_append,sT _ (mR _ AE)] at z;simp only[if_true] at z;split at z
   ·injection z with z;exact z.symm
   ·cases z
  cases hq:kO (gH 1 c) with
  | none=>rw[hq] at h;cases h
  | some y=>
   rw[hq,I y hq] at h;simp only at h;cases hr:nD (ig 1 c++(jD 1++fU c.rev)) with
   | none=>rw[hr] at h;cases h
   | some y=>rw[hr,D y hr] at h;simp only[Option.map_some,Option.some.injEq] at h;rw[<-h,K]
theorem acu {c:gQ}(ok:c.ok){x:LU×LU×LU}(h:mi (gH 2 c)=some x):x=(Cr 2 c,ig 2 c,fU c.rev):=by
 have M:jD 2=[45]:=rfl;have D:∀ y,qZ (ig 2 c++(jD 2++fU c.rev))=some y->y=(ig 2 c,fU c.rev):=by
  intro y z;rw[M,List.singleton_append] at z;unfold qZ at z;rw[sT _ (SG ok)] at z;simp only at z;split at z
  ·injection z with z;exact z.symm
  ·cases z
 have H:(58:UInt8) ∉ ig 2 c++(jD 2++fU c.rev):=by
  rw[List.mem_append,List.mem_append];rintro(e | e | e)
  ·exact Cq ok e
  ·rw[M] at e;simp at e
  ·exact mR _ AE e
 unfold mi at h;by_cases F:c.ep=0
 ·have J:rC 2 c=[]:=by unfold rC;rw[if_pos (.inr F)]
  have K:Cr 2 c=[]:=by unfold Cr;rw[if_pos (.inr F)]
  have I:nT (gH 2 c)=some ([],ig 2 c++(jD 2++fU c.rev)):=by
   unfold nT gH;rw[J,List.nil_append,Ev H];simp
  rw[I] at h;simp only at h;cases hr:qZ (ig 2 c++(jD 2++fU c.rev)) with
  | none=>rw[hr] at h;cases h
  | some y=>rw[hr,D y hr] at h;simp only[Option.map_some,Option.some.injEq] at h;rw[<-h,K]
 ·have J:rC 2 c=fU c.ep++[58]:=by unfold rC;rw[if_neg (by simp[F])]
  have K:Cr 2 c=fU c.ep:=by unfold Cr;rw[if_neg (by simp[F])]
  have I:∀ y,nT (gH 2 c)=some y->y=(fU c.ep,ig 2 c++(jD 2++fU c.rev)):=by
   intro y z;unfold nT gH at z;rw[J,List.append_assoc,List.singleton_append,sT _ (mR _ AE)] at z;simp only[if_true] at z;split at z
   ·injection z with z;exact z.symm
   ·cases z
  cases hq:nT (gH 2 c) with
  | none=>rw[hq] at h;cases h
  | some y=>
   rw[hq,I y hq] at h;simp only at h;cases hr:qZ (ig 2 c++(jD 2++fU c.rev)) with
   | none=>rw[hr] at h;cases h
   | some y=>rw[hr,D y hr] at h;simp only[Option.map_some,Option.some.injEq] at h;rw[<-h,K]
theorem Ew:∀ (L:List Nat)(k:Nat)(z:Int)(F:List Pc)(r:LU),L≠[]->L.length<=k->(∀ x,r.head?=some x->gf x=false/\x≠46) ->
  ∃ acc',lI k z F (iy 46 (L.map fU)++r)=some (acc',r)
 | [],_,_,_,_,h,_,_=>absurd rfl h
 | _::_,0,_,_,_,_,h,_=>by simp at h
 | [n],k+1,z,F,r,_,_,hr=>by
  have D:fS gf (fU n++r)=(fU n).length:=kM (iW n) (fun x H=>(hr x H).1);have I:=oh n;simp only[List.map_cons,List.map_nil,iy];unfold lI;rw[D,if_neg (by omega),List.drop_left,List.take_left];cases r with
  | nil=>exact⟨_,rfl⟩
  | cons x t=>
   have H:=(hr x rfl).2;split
   ·rename_i e;injection e with e1 _;exact absurd e1 H
   ·exact⟨_,rfl⟩
 | n::m::L,k+1,z,F,r,_,hk,hr=>by
  have I:=oh n;simp only[List.map_cons,iy,List.append_assoc,List.cons_append];have D:fS gf (fU n++46::(iy 46 (fU m::L.map fU)++r))=(fU n).length:=kM (iW n) (fun x H=>by
   simp only[List.head?_cons,Option.some.injEq] at H;rw[<-H];decide)
  unfold lI;rw[D,if_neg (by omega),List.drop_left,List.take_left];exact Ew (m::L) k 6 _ r (by simp) (by simp at hk |-;omega) hr
theorem Ex:∀ (L:List Nat),L.length<=(iy 46 (L.map fU)).length
 | []=>by simp
 | [n]=>by have:=oh n;simp[iy];omega
 | n::m::L=>by
  have:=Ex (m::L);simp only[List.map_cons,iy,List.length_append,List.length_cons] at this |-;omega
theorem AF (h:l.all it=true)(z:∀ c,r.head?=some c->it c=false):fS it (l++r)=l.length:=by
 unfold fS
 induction l with
 | nil=>
  cases r with
  | nil=>rfl
  | cons a t=>rw[List.nil_append,List.takeWhile_cons_of_neg (by rw[z a rfl];simp)]
 | cons a t ih=>
  rw[List.all_cons,Bool.and_eq_true] at h;rw[List.cons_append,List.takeWhile_cons_of_pos h.1,List.length_cons,ih h.2,List.length_cons]
theorem pZ (h:gf x=true):it x=false:=by
 unfold gf at h;unfold it;have:=dO h;exact dF (by omega)
theorem oY (n:Nat)(r:LU):∀ x,(fU n++r).head?=some x->gf x=true:=by
 intro x z;have h:=iW n;cases e:fU n with
 | nil=>exact absurd e (oe n)
 | cons a t=>
  rw[e] at z h;rw[List.all_cons,Bool.and_eq_true] at h;simp only[List.cons_append,List.head?_cons,Option.some.injEq] at z;rw[<-z];exact h.1
theorem Vj {w:LU}(h:w∈jg):∃ i,lK w=some i:=by
 simp only[jg,List.mem_cons,List.not_mem_nil,or_false] at h;rcases h with rfl | rfl | rfl | rfl
 ·exact⟨0,by decide⟩
 ·exact⟨1,by decide⟩
 ·exact⟨2,by decide⟩
 ·exact⟨3,by decide⟩
theorem Yk {c:gQ}(ok:c.ok):oI (gH 3 c)=some ([],ig 3 c,fU c.rev):=by
 have e1:rC 3 c=[]:=by unfold rC;rw[if_pos (.inl rfl)]
 have hd:jD 3=[45,114]:=rfl;generalize hR:jD 3++fU c.rev=R;have I:R=45::114::fU c.rev:=by rw[<-hR,hd];rfl
 have V:∀ x,(jd 3 c++R).head?=some x->x=95\/x=45:=by
  intro x z;unfold jd at z;split at z
  ·rw[I] at z;simp at z;exact .inr z.symm
  ·simp[vI] at z;exact .inl z.symm
 have Z:∀ x,(c.lt++(jd 3 c++R)).head?=some x->gf x=false/\x≠46:=by
  intro x z;rcases ok.lt with e | ⟨b,e,M⟩
  ·rw[e,List.nil_append] at z;rcases V x z with rfl | rfl<;>decide
  ·rw[e] at z;simp only[List.cons_append,List.head?_cons,Option.some.injEq] at z;subst z;constructor
   ·cases h:gf b with
    | false=>rfl
    | true=>rw[pZ h] at M;cases M
   ·rintro rfl;revert M;decide
 have hl:gH 3 c=nL c++(c.lt++(jd 3 c++R)):=by unfold gH ig;rw[e1,hR];simp
 obtain⟨D,hn⟩:=Ew c.nums ((gH 3 c).length+1) 7 [] (c.lt++(jd 3 c++R)) ok.nums (by
  have:=Ex c.nums;rw[hl,List.length_append];unfold nL;omega) Z
 have F:∃ acc',mr D (c.lt++(jd 3 c++R))=(acc',jd 3 c++R):=by
  rcases ok.lt with e | ⟨b,e,M⟩
  ·rw[e,List.nil_append];cases hq:jd 3 c++R with
   | nil=>exact⟨D,rfl⟩
   | cons x t=>
    have z:it x=false:=by rcases V x (by rw[hq];rfl) with rfl | rfl<;>decide
    refine⟨D,?_⟩;unfold mr;simp only;rw[if_neg (by rw[z];simp)]
  ·rw[e];refine⟨D++[⟨5,[b],0⟩],?_⟩;show mr D (b::(jd 3 c++R))=_;unfold mr;simp only;rw[if_pos M]
 obtain⟨O,F⟩:=F;have J:∀ k D,km (k+1) D R=some (D,R):=by
  intro k D;rw[I];unfold km;simp
 have H:∃ acc',km ((jd 3 c++R).length+1) O (jd 3 c++R)=some (acc',R):=by
  unfold jd;split
  ·exact⟨_,J _ _⟩
  ·rename_i X;have hw:c.pre∈jg:=by
    rcases ok.pre with⟨e,_⟩ | h
    ·exact absurd e X
    ·exact h
   obtain⟨i,hi⟩:=Vj hw;have Y:vI 3=95:=rfl;rw[Y];simp only[List.cons_append,List.length_cons,List.append_assoc];have r1:fS it (c.pre++(fU c.pnum++R))=c.pre.length:=AF (mI hw) (fun x z=>pZ (oY _ _ x z));have r2:fS gf (fU c.pnum++R)=(fU c.pnum).length:=kM (iW _) (fun x z=>by rw[I] at z;simp at z;rw[<-z];decide);unfold km;simp only[r1,List.take_left,List.drop_left,hi,r2];exact⟨_,J _ _⟩
 obtain⟨K,H⟩:=H;unfold oI rz;rw[hl] at *;unfold nL at *;rw[hn];simp only[F,H];have U:tF (iy 46 (c.nums.map fU)++(c.lt++(jd 3 c++R))) K R=some (K++[⟨2,fU c.rev,0⟩]++[⟨1,[],0⟩],ig 3 c,fU c.rev):=by
  rw[I];unfold tF;simp only[uQ,if_true];congr 3;rw[<-I];have:iy 46 (c.nums.map fU)++(c.lt++(jd 3 c++R))=ig 3 c++R:=by unfold ig nL;simp
  rw[this,List.length_append,Nat.add_sub_cancel,List.take_left]
 rw[U];rfl
theorem AH (D:fmt=1\/fmt=2\/fmt=3){c:gQ}(ok:c.ok){x:LU×LU×LU}(h:la fmt (gH fmt c)=some x):x=(Cr fmt c,ig fmt c,fU c.rev):=by
 rcases D with rfl | rfl | rfl
 ·exact act ok h
 ·exact acu ok h
 ·have z:la 3 (gH 3 c)=oI (gH 3 c):=rfl;rw[z,Yk ok] at h;injection h with h;rw[<-h];unfold Cr;rw[if_pos (.inl rfl)]
def QB:LU->LU->Bool
 | _,[]=>true
 | [],_::_=>false
 | a::l,b::w=>a==b&&QB l w
def pJ (l:LU):LU:=match l.getLast? with
 | some b=>if it b=true then [b] else []
 | none=>[]
def AI (l:LU):LU:=if pJ l=[] then l else l.dropLast
def Ey (tail:LU)(a:LU×Nat)(w:LU):LU×Nat:=if QB tail w=true then (w,(jF (tail.drop w.length)).toNat) else a
def ue (fmt:Int)(x:LU×LU×LU):gQ where
 ep:=if x.1=[] then 0 else (jF x.1).toNat
 nums:=(jq 46 (AI (Lib.cut x.2.1 [vI fmt]).1)).map fun d=>(jF d).toNat
 lt:=pJ (Lib.cut x.2.1 [vI fmt]).1
 pre:=(jg.foldl (Ey (Lib.cut x.2.1 [vI fmt]).2.1) ([],0)).1
 pnum:=(jg.foldl (Ey (Lib.cut x.2.1 [vI fmt]).2.1) ([],0)).2
 rev:=(jF x.2.2).toNat
theorem xT (h:n<=999999999):(jF (fU n)).toNat=n:=by
 have:=(Qy (n:=n) (by unfold CW;omega)).1;rw[this];simp
theorem KC (z:l≠[])(h:l.all gf=true):∃ b,l.getLast?=some b/\gf b=true:=by
 cases e:l.getLast? with
 | none=>rw[List.getLast?_eq_none_iff] at e;exact absurd e z
 | some b=>
  refine⟨b,rfl,?_⟩;rw[List.all_eq_true] at h;exact h b (List.mem_of_getLast? e)
theorem Vk {c:gQ}(h:c.nums≠[]):∃ b,(nL c).getLast?=some b/\gf b=true:=by
 obtain⟨L,n,e⟩:∃ L n,c.nums=L++[n]:=by
  cases hl:c.nums.getLast? with
  | none=>rw[List.getLast?_eq_none_iff] at hl;exact absurd hl h
  | some n=>obtain⟨L,e⟩:=List.getLast?_eq_some_iff.1 hl;exact⟨L,n,e⟩
 unfold nL;rw[e,List.map_append,List.map_singleton,wC];obtain⟨b,D,z⟩:=KC (oe n) (iW n);refine⟨b,?_,z⟩;rw[List.getLast?_append,D];rfl
theorem Vl {c:gQ}(ok:c.ok):pJ (nL c++c.lt)=c.lt/\AI (nL c++c.lt)=nL c:=by
 have key:pJ (nL c++c.lt)=c.lt:=by
  unfold pJ;rcases ok.lt with e | ⟨b,e,z⟩
  ·obtain⟨b,z,D⟩:=Vk ok.nums;rw[e,List.append_nil,z];simp only;rw[pZ D,if_neg (by simp)]
  ·rw[e,List.getLast?_append];simp[z]
 refine⟨key,?_⟩;unfold AI;rw[key];rcases ok.lt with e | ⟨b,e,z⟩
 ·rw[if_pos e,e,List.append_nil]
 ·rw[if_neg (by rw[e];simp),e];simp
theorem Vm {w:LU}(D:w∈jg)(H:n<=999999999):jg.foldl (Ey (w++fU n)) ([],0)=(w,n):=by
 have z:=xT H;have F:=oY n [];rw[List.append_nil] at F;simp only[jg,List.mem_cons,List.not_mem_nil,or_false] at D;rcases D with rfl | rfl | rfl | rfl
 all_goals
  simp only[jg,List.foldl_cons,List.foldl_nil,Ey,List.cons_append,List.nil_append,QB];cases e:fU n with
  | nil=>exact absurd e (oe n)
  | cons a t=>rw[e] at z;simp[QB,z]
theorem QC {c:gQ}(ok:c.ok)(O:fmt=3->c.ep=0):ue fmt (Cr fmt c,ig fmt c,fU c.rev)=c:=by
 have D:vI fmt ∉ nL c++c.lt:=by
  obtain⟨_,_,I,J,R⟩:=Qz fmt;rw[List.mem_append];rintro(h | h)
  ·exact SD c J I h
  ·exact abQ ok R h
 have hcut:(Lib.cut (ig fmt c) [vI fmt]).1=nL c++c.lt/\jg.foldl (Ey (Lib.cut (ig fmt c) [vI fmt]).2.1) ([],0)=(c.pre,c.pnum):=by
  unfold ig jd;rw[<-List.append_assoc];rcases ok.pre with⟨e,M⟩ | h
  ·rw[if_pos e,List.append_nil,Ev D,e,M];exact⟨rfl,(show jg.foldl (Ey []) ([],0)=([],0) from by decide)⟩
  ·rw[if_neg (aaw h),sT _ D];exact⟨rfl,Vm h ok.pnum⟩
 have H:=Vl ok;have F:(if Cr fmt c=[] then 0 else (jF (Cr fmt c)).toNat)=c.ep:=by
  unfold Cr;by_cases e:fmt=3\/c.ep=0
  ·rw[if_pos e,if_pos rfl];rcases e with e | e
   ·exact(O e).symm
   ·exact e.symm
  ·rw[if_neg e,if_neg (oe _)];exact xT ok.ep
 have z:(jq 46 (nL c)).map (fun d=>(jF d).toNat)=c.nums:=by
  unfold nL;rw[xS 46 _ (by simpa using ok.nums) (fun l K=>by obtain⟨n,_,rfl⟩:=List.mem_map.1 K;exact mR n (by decide)),List.map_map];have:∀ (L:List Nat),(∀ n∈L,n<=999999999)->L.map ((fun d=>(jF d).toNat) ∘ fU)=L:=by
   intro L
   induction L with
   | nil=>intro _;rfl
   | cons a r ih=>intro h;rw[List.map_cons,ih (fun n U=>h n (List.mem_cons_of_mem _ U))];congr 1;exact xT (h a (by simp))
  exact this _ ok.each
 unfold ue;rw[hcut.1,hcut.2,H.1,H.2,F,z,xT ok.rev]
def SH:LU->Bool
 | []=>true
 | [b]=>it b
 | _=>false
def pK (c:gQ):Bool:=!c.nums.isEmpty&&(c.nums.all (fun n=>decide (n<=999999999))&&(decide (c.ep<=999999999)&&(decide (c.pnum<=999999999)&&(decide (c.rev<=999999999)&&(SH c.lt&&(((c.pre.isEmpty&&decide (c.pnum=0))||jg.contains c.pre)&&decide ((gH 1 c).length<=64)))))))
theorem aay (l:LU):SH l=true↔l=[]\/∃ b,l=[b]/\it b=true:=by
 match l with
 | []=>simp[SH]
 | [b]=>simp[SH]
 | a::b::r=>simp[SH]
theorem uR (c:gQ):pK c=true↔c.ok:=by
 unfold pK;simp only[Bool.and_eq_true,Bool.or_eq_true,decide_eq_true_eq,Bool.not_eq_true',List.isEmpty_eq_false_iff,List.isEmpty_iff,List.all_eq_true,aay,List.contains_iff_mem];constructor
 ·rintro⟨h1,h2,h3,h4,h5,h6,h7,h8⟩;exact⟨h1,h2,h3,h4,h5,h6,h7,h8⟩
 ·rintro⟨h1,h2,h3,h4,h5,h6,h7,h8⟩;exact⟨h1,h2,h3,h4,h5,h6,h7,h8⟩
def iR (fmt:Int)(c:gQ):Bool:=pK c&&(!decide (fmt=3/\c.ep≠0)&&decide ((gH fmt c).length<=64))
def vq (fmt:Int)(c:gQ):LU×Int:=if iR fmt c=true then (gH fmt c,0) else ([],11)
theorem rZ {c:gQ}(h:iR fmt c=true):c.ok/\(fmt=3->c.ep=0):=by
 unfold iR at h;simp only[Bool.and_eq_true,Bool.not_eq_true',decide_eq_false_iff_not] at h;refine⟨(uR c).1 h.1,fun e=>?_⟩;have:=h.2.1;by_cases z:c.ep=0
 ·exact z
 ·exact absurd ⟨e,z⟩ this
def fits (fmt:Int)(l:LU)(c:gQ):Bool:=iR fmt c&&decide (gH fmt c=l)
def sd (fmt:Int)(l:LU):Option gQ:=match la fmt l with
 | none=>none
 | some x=>if fits fmt l (ue fmt x)=true then some (ue fmt x) else none
theorem Nm {c:gQ}:fits fmt l c=true↔iR fmt c=true/\gH fmt c=l:=by
 unfold fits;rw[Bool.and_eq_true,decide_eq_true_eq]
theorem uS {c:gQ}(h:sd fmt l=some c):iR fmt c=true/\gH fmt c=l:=by
 unfold sd at h;split at h
 ·cases h
 ·split at h
  ·rename_i z;injection h with h;subst h;exact Nm.1 z
  ·cases h
theorem KE (D:fmt=1\/fmt=2\/fmt=3)(H:la fmt l≠none){c:gQ}(h:iR fmt c=true)(z:gH fmt c=l):sd fmt l=some c:=by
 obtain⟨ok,F⟩:=rZ h;cases e:la fmt l with
 | none=>exact absurd e H
 | some x=>
  have J:x=(Cr fmt c,ig fmt c,fU c.rev):=AH D ok (by rw[z];exact e);have I:ue fmt x=c:=by rw[J];exact QC ok F
  unfold sd;rw[e];simp only;rw[I,if_pos (Nm.2 ⟨h,z⟩)]
def oj (fmt:Int)(s:BA):Int:=if gL fmt s≠0 then gL fmt s else if sd fmt (bl s)=none then 11 else 0
def trans (a b:Int)(s:BA):LU×Int:=
 if ¬ (a=1\/a=2\/a=3)\/¬ (b=1\/b=2\/b=3) then ([],9) else if gL a s≠0 then ([],gL a s) else match sd a (bl s) with
  | none=>([],11)
  | some c=>vq b c
theorem kB (D:fmt=1\/fmt=2\/fmt=3)(h:gL fmt s=0):la fmt (bl s)≠none/\s.size<=64:=by
 unfold gL at h;rw[if_neg (fun F=>F D)] at h;split at h
 ·simp at h
 ·rename_i z;refine⟨fun e=>?_,by omega⟩;rw[e] at h;simp[Cf] at h
theorem aaz (c:gQ):gH 2 c=gH 1 c:=by
 unfold gH rC ig jd jD vI;simp
section
open Go.RowKit
structure gj where
 nm:BA
 ver:BA
 ga:OA
 gc:Nat
 gives:List fP
def gj.cells (x:gj):LV:=[.string x.nm,.string x.ver,.slice x.ga x.gives.length x.gc]
def gj.val (x:gj):Value:=.agg #[.string x.nm,.string x.ver,.slice x.ga x.gives.length x.gc]
theorem Ez (x:gj):x.cells.length=3:=rfl
structure jo where
 nm:BA
 ver:BA
 gives:List fP
def gj.plain (x:gj):jo:=⟨x.nm,x.ver,x.gives⟩
structure AJ (w:World) (A:OA) (l:List gj):Prop where
 row:Rd w 3 A l.length (l.flatMap gj.cells)
 all:∀ x∈l,Rd w 3 x.ga x.gives.length (x.gives.flatMap fP.cells)
theorem AJ.below {l:List gj}(h:AJ w A l)(z:Bw w w'):AJ w' A l:=⟨h.row.below z,fun x D=>(h.all x D).below z⟩
abbrev iY (a:Int):Prop:=a=1\/a=2\/a=3
def EC (a b:Int)(g:fP):Int:=if g.op≠3 then 11 else if (trans a b g.ver).2≠0 then 11 else 0
def uf (nm:BA)(l:List fP):Bool:=hH (bl nm)&&l.all fun g=>hH (bl g.nm)
def qD (a b:Int)(x:jo):Int:=if uf x.nm x.gives=false then 10 else if (trans a b x.ver).2≠0 then 11 else if (x.gives.all fun g=>decide (EC a b g=0))=false then 11 else 0
def po (a b:Int)(g:fP):fP:=⟨g.nm,3,⟨(trans a b g.ver).1.toArray⟩⟩
def lY (a b:Int)(x:jo):jo:=⟨x.nm,⟨(trans a b x.ver).1.toArray⟩,x.gives.map (po a b)⟩
def zw (f:jo->Int):List jo->Int
 | []=>0
 | x::r=>if f x≠0 then f x else zw f r
def nB (a b:Int)(l:List jo):Int:=if ¬ iY a\/¬ iY b then 9 else zw (qD a b) l
def zy (a b:Int)(l:List jo):List jo:=if nB a b l=0 then l.map (lY a b) else []
theorem AM {f:jo->Int}:∀ {l:List jo},(∀ y∈l,f y=0)->zw f l=0
 | [],_=>rfl
 | a::r,h=>by rw[zw,if_neg (by rw[h a (by simp)];simp)];exact AM (fun y z=>h y (List.mem_cons_of_mem _ z))
theorem Nn {a b:Int}:(trans a b s).1.length<=64:=by
 unfold trans
 repeat' split
 all_goals first | (simp;done) | skip
 unfold vq;split
 ·rename_i h;unfold iR at h;simp only[Bool.and_eq_true,decide_eq_true_eq] at h;exact h.2.2
 ·simp
theorem ED (c:UInt8)(w:World):Calls prog 132 #[.int .u8 c.toNat] w fun e w'=>e=.returned (.bool (it c))/\w=w':=by
 go_in;go_wp2
 all_goals (go_ret;refine⟨fJ ?_,rfl⟩;rw[bI];simp[it];omega)
def tu (n:Int):Bool:=!decide (iY n)
theorem zz (n:Int)(w:World):Calls prog 79 #[.int .i64 n] w fun e w'=>e=.returned (.bool (tu n))/\w=w':=by
 go_in;go_wp2
 all_goals (go_ret;refine⟨fJ ?_,rfl⟩;rw[bI];simp[tu,iY];omega)
def qU (fmt:Int):BA:=⟨#[vI fmt]⟩
def xU (fmt:Int):BA:=⟨(jD fmt).toArray⟩
theorem EE (fmt:Int)(w:World):Calls prog 130 #[.int .i64 fmt] w fun e w'=>e=.returned (.tuple #[.string (qU fmt),.string (xU fmt)])/\w=w':=by
 by_cases h:fmt=3
 ·subst h;go_in;go_wp2;go_ret2;exact⟨rfl,rfl⟩
 ·have q:(fmt==3)=false:=by simpa using h
  have E:Hid (qU fmt=⟨#[126]⟩/\xU fmt=⟨#[45]⟩):=by
   show _/\_;unfold qU xU vI jD;rw[if_neg h,if_neg h];exact⟨rfl,rfl⟩
  go_in;go_wp2;go_ret2;exact⟨by rw[E.out.1,E.out.2];rfl,rfl⟩
theorem EH (n:Nat):Lib.decDigits n=fU n:=by
 induction n using Nat.strongRecOn with
 | ind n ih=>
  by_cases h:n<10
  ·rw[jj h,Lib.decDigits,dif_pos h]
  ·rw[od h,Lib.decDigits,dif_neg h,ih (n / 10) (by omega)]
def sf (n:Nat):BA:=⟨(fU n).toArray⟩
theorem sU (n:Nat):bl (sf n)=fU n:=nj _
theorem ug:∀ (k n:Nat),n<10 ^ (k+1)->(fU n).length<=k+1
 | 0,n,h=>by rw[jj (by simpa using h)];simp
 | k+1,n,h=>by
  by_cases z:n<10
  ·rw[jj z];simp
  ·rw[od z,List.length_append,List.length_singleton];have:=ug k (n / 10) (by rw[Nat.div_lt_iff_lt_mul (by omega)];rw[Nat.pow_succ] at h;exact h);omega
theorem xV (h:n<=4611686018427387903):(sf n).size<=19:=by
 have:=ug 18 n (by omega);have z:=fI (sf n);rw[sU] at z;omega
end
theorem IX (h:n<=999999999):(fU n).length<=9:=ug 8 n (by omega)
theorem sg {p:UInt8->Bool}(h:l.all p=true)(z:∀ c,r.head?=some c->p c=false):fS p (l++r)=l.length:=by
 unfold fS
 induction l with
 | nil=>
  cases r with
  | nil=>rfl
  | cons a t=>rw[List.nil_append,List.takeWhile_cons_of_neg (by rw[z a rfl];simp)]
 | cons a t ih=>
  rw[List.all_cons,Bool.and_eq_true] at h;rw[List.cons_append,List.takeWhile_cons_of_pos h.1,List.length_cons,ih h.2,List.length_cons]
theorem No {c:gQ}(ok:c.ok)(h:x∈ig fmt c):gf x=true\/it x=true\/x=46\/x=vI fmt:=by
 unfold ig at h;rcases List.mem_append.1 h with h | h
 ·rcases zu 46 _ x h with e | ⟨l,z,F⟩
  ·exact .inr (.inr (.inl e))
  ·obtain⟨n,_,rfl⟩:=List.mem_map.1 z;exact .inl (List.all_eq_true.1 (iW n) x F)
 ·rcases List.mem_append.1 h with h | h
  ·rcases ok.lt with e | ⟨b,e,D⟩
   ·rw[e] at h;simp at h
   ·rw[e] at h;rw[List.mem_singleton.1 h];exact .inr (.inl D)
  ·unfold jd at h;split at h
   ·simp at h
   ·rcases List.mem_cons.1 h with e | h
    ·exact .inr (.inr (.inr e))
    ·rcases List.mem_append.1 h with h | h
     ·exact .inr (.inl (List.all_eq_true.1 (SE ok) x h))
     ·exact .inl (List.all_eq_true.1 (iW _) x h)
theorem Yl {c:gQ}(ok:c.ok)(h:x∈gH fmt c):gf x=true\/it x=true\/x=46\/x=vI fmt\/x=58\/x=45:=by
 unfold gH at h;rcases List.mem_append.1 h with h | h
 ·unfold rC at h;split at h
  ·simp at h
  ·rcases List.mem_append.1 h with h | h
   ·exact .inl (List.all_eq_true.1 (iW _) x h)
   ·exact .inr (.inr (.inr (.inr (.inl (List.mem_singleton.1 h)))))
 ·rcases List.mem_append.1 h with h | h
  ·rcases No ok h with h | h | h | h
   ·exact .inl h
   ·exact .inr (.inl h)
   ·exact .inr (.inr (.inl h))
   ·exact .inr (.inr (.inr (.inl h)))
  ·rcases List.mem_append.1 h with h | h
   ·unfold jD at h;split at h
    ·rcases List.mem_cons.1 h with h | h
     ·exact .inr (.inr (.inr (.inr (.inr h))))
     ·rw[List.mem_singleton.1 h];exact .inr (.inl (by decide))
    ·exact .inr (.inr (.inr (.inr (.inr (List.mem_singleton.1 h)))))
   ·exact .inl (List.all_eq_true.1 (iW _) x h)
theorem mf (n:Nat):∃ d r,fU n=d::r/\gf d=true:=by
 cases e:fU n with
 | nil=>exact absurd e (oe n)
 | cons d r=>exact⟨d,r,rfl,oY n [] d (by rw[e];rfl)⟩
theorem Vn {c:gQ}(h:c.nums≠[]):∃ d r,nL c=d::r/\gf d=true:=by
 unfold nL
 match hn:c.nums with
 | []=>exact absurd hn h
 | [n]=>exact mf n
 | n::m::L=>
  obtain⟨d,r,e,z⟩:=mf n;exact⟨d,r++46::iy 46 ((m::L).map fU),by simp only[List.map_cons,iy,e];rfl,z⟩
theorem zA {c:gQ}(ok:c.ok):∃ d r,ig fmt c=d::r/\gf d=true:=by
 obtain⟨d,r,e,z⟩:=Vn ok.nums;exact⟨d,r++(c.lt++jd fmt c),by unfold ig;rw[e];rfl,z⟩
theorem Vo {c:gQ}(ok:c.ok):∃ d r,gH fmt c=d::r/\gf d=true:=by
 unfold gH rC;split
 ·obtain⟨d,r,e,z⟩:=zA (fmt:=fmt) ok;exact⟨d,r++(jD fmt++fU c.rev),by rw[e];rfl,z⟩
 ·obtain⟨d,r,e,z⟩:=mf c.ep;exact⟨d,r++[58]++(ig fmt c++(jD fmt++fU c.rev)),by rw[e];simp,z⟩
theorem IY (o:LU)(n:Nat):iq o (fU n)=true:=by
 obtain⟨d,r,e,_⟩:=mf n;have h:=iW n;unfold iq;rw[Bool.and_eq_true];refine⟨by rw[e];rfl,List.all_eq_true.2 fun x z=>?_⟩;unfold ZY;rw[List.all_eq_true.1 h x z];simp
theorem EI {c:gQ}(ok:c.ok){o:LU}(D:o.contains 46=true)(z:o.contains (vI fmt)=true):iq o (ig fmt c)=true:=by
 obtain⟨d,r,e,_⟩:=zA (fmt:=fmt) ok;unfold iq;rw[Bool.and_eq_true];refine⟨by rw[e];rfl,List.all_eq_true.2 fun x F=>?_⟩;unfold ZY ku;rcases No ok F with h | h | h | h
 ·rw[h];simp
 ·rw[h];simp
 ·rw[h,D];simp
 ·rw[h,z];simp
theorem KG {c:gQ}(ok:c.ok):qW (ig fmt c)=true:=by
 obtain⟨d,r,e,z⟩:=zA (fmt:=fmt) ok;rw[e];exact z
theorem Np {c:gQ}(ok:c.ok):∃ x,mg (gH 1 c)=some x:=by
 have I:jD 1=[45]:=rfl;have z:nD (ig 1 c++(jD 1++fU c.rev))=some (ig 1 c,fU c.rev):=by
  rw[I,List.singleton_append];unfold nD;rw[IW _ _ (mR _ abP)];have D:(ig 1 c++45::fU c.rev).drop ((ig 1 c).length+1)=fU c.rev:=by simp
  have K:(ig 1 c++45::fU c.rev).take (ig 1 c).length=ig 1 c:=by simp
  simp only;rw[D,K,if_pos ⟨IY _ _,by rw[EI ok (by decide) (by decide),KG ok];rfl⟩]
 have F:(58:UInt8) ∉ ig 1 c++(jD 1++fU c.rev):=by
  rw[List.mem_append,List.mem_append];rintro(e | e | e)
  ·exact Cq ok e
  ·rw[I] at e;simp at e
  ·exact mR _ AE e
 unfold mg;by_cases J:c.ep=0
 ·have D:rC 1 c=[]:=by unfold rC;rw[if_pos (.inr J)]
  have H:kO (gH 1 c)=some ([],ig 1 c++(jD 1++fU c.rev)):=by
   unfold kO gH;rw[D,List.nil_append,Ev F];simp
  rw[H];simp only;rw[z];exact⟨_,rfl⟩
 ·have D:rC 1 c=fU c.ep++[58]:=by unfold rC;rw[if_neg (by simp[J])]
  have H:kO (gH 1 c)=some (fU c.ep,ig 1 c++(jD 1++fU c.rev)):=by
   unfold kO gH;rw[D,List.append_assoc,List.singleton_append,sT _ (mR _ AE)];simp only[if_true];rw[if_pos ⟨uQ _,IX ok.ep⟩]
  rw[H];simp only;rw[z];exact⟨_,rfl⟩
theorem EJ (h:n≠0):jJ (fU n)=false:=by
 by_cases z:n<10
 ·rw[jj z];rfl
 ·have:=zr n (by omega)
  match e:fU n with
  | []=>rfl
  | [a]=>rfl
  | a::b::r=>rw[e] at this;simp only[List.head?_cons,ne_eq,Option.some.injEq] at this;simpa [jJ] using this
theorem Nq {c:gQ}(ok:c.ok):∃ x,mi (gH 2 c)=some x:=by
 have J:jD 2=[45]:=rfl;have z:qZ (ig 2 c++(jD 2++fU c.rev))=some (ig 2 c,fU c.rev):=by
  rw[J,List.singleton_append];unfold qZ;rw[sT _ (SG ok)];simp only;rw[if_pos (by rw[EI ok (by decide) (by decide),IY];rfl)]
 have D:(58:UInt8) ∉ ig 2 c++(jD 2++fU c.rev):=by
  rw[List.mem_append,List.mem_append];rintro(e | e | e)
  ·exact Cq ok e
  ·rw[J] at e;simp at e
  ·exact mR _ AE e
 unfold mi;by_cases I:c.ep=0
 ·have H:rC 2 c=[]:=by unfold rC;rw[if_pos (.inr I)]
  have F:nT (gH 2 c)=some ([],ig 2 c++(jD 2++fU c.rev)):=by
   unfold nT gH;rw[H,List.nil_append,Ev D];simp
  rw[F];simp only;rw[z];exact⟨_,rfl⟩
 ·have H:rC 2 c=fU c.ep++[58]:=by unfold rC;rw[if_neg (by simp[I])]
  have F:nT (gH 2 c)=some (fU c.ep,ig 2 c++(jD 2++fU c.rev)):=by
   unfold nT gH;rw[H,List.append_assoc,List.singleton_append,sT _ (mR _ AE)];simp only[if_true];rw[if_pos ⟨uQ _,IX ok.ep,EJ I⟩]
  rw[F];simp only;rw[z];exact⟨_,rfl⟩
theorem ol (z:fmt=1\/fmt=2\/fmt=3){c:gQ}(h:iR fmt c=true):gL fmt (gX (gH fmt c))=0:=by
 obtain⟨ok,_⟩:=rZ h;have H:(gH fmt c).length<=64:=by unfold iR at h;simp only[Bool.and_eq_true,decide_eq_true_eq] at h;exact h.2.2
 have:∃ x,la fmt (gH fmt c)=some x:=by
  rcases z with rfl | rfl | rfl
  ·exact Np ok
  ·exact Nq ok
  ·exact⟨_,Yk ok⟩
 obtain⟨x,D⟩:=this;unfold gL;rw[if_neg (fun F=>F z),if_neg (by rw[iB];omega),iS,D];rfl
theorem Nr {c:gQ}(h:pK c=true):iR 1 c=true:=by
 have z:=((uR c).1 h).short;unfold iR;rw[h,dF (by rintro⟨e,_⟩;omega),dT z];rfl
theorem QD {b:Int}(F:b=1\/b=2\/b=3){v:BA}{t:LU}(h:trans 1 b v=(t,0)):
  ∃ c,iR b c=true/\t=gH b c/\gH 1 c=bl v/\gL 1 v=0/\sd 1 (bl v)=some c/\gL b (gX t)=0/\trans b 1 (gX t)=(bl v,0):=by
 unfold trans at h;rw[if_neg (by rintro(x | x);exact x (.inl rfl);exact x F)] at h;by_cases I:gL 1 v=0
 ·rw[if_neg (by simpa using I)] at h;cases hp:sd 1 (bl v) with
  | none=>rw[hp] at h;injection h with _ h;cases h
  | some c=>
   rw[hp] at h;simp only at h;unfold vq at h;split at h
   ·rename_i D;injection h with h1 _;obtain⟨M,H⟩:=uS hp;have z:=ol F D;refine⟨c,D,h1.symm,H,I,rfl,by rw[<-h1];exact z,?_⟩;have K:=(kB F z).1;rw[iS] at K;have J:=KE F K D rfl;unfold trans;rw[if_neg (by rintro(x | x);exact x F;exact x (.inl rfl)),<-h1,if_neg (by rw[z];simp),iS,J];simp only;unfold vq;rw[if_pos (by unfold iR at D;rw[Bool.and_eq_true] at D;exact Nr D.1),H]
   ·injection h with _ h;cases h
 ·rw[if_pos I] at h;injection h with _ h;exact absurd h I
section
open Go.RowKit Go.Sort
structure QI (w:World):Prop where
 gl:Gl w
 prs:∀ i,i<4->w.cell? ⟨0,i,none⟩=some (.string (jO i))
 tab : Lib.TabIs prog w "internal/strconv.uint64pow10" .u64 Lib.pow10Tab
theorem Jb : prog.globalNamed "internal/strconv.uint64pow10" = some 10 := by kernel_rfl
theorem QI.below (h:QI w)(z:Bw w w'):QI w':=by
 refine⟨h.gl.below z,fun i D=>(z.cell (World.block_lt_of_cell? _ _ (h.prs i D))).trans (h.prs i D),?_⟩;have ht:=h.tab;unfold Lib.TabIs at ht |-;refine var?_below z Jb ?_ ht;unfold World.var? at ht;rw[Jb] at ht;simp only[Option.bind_some] at ht;apply Classical.byContradiction;intro F;rw[Array.getElem?_eq_none (by omega)] at ht;cases ht
theorem QJ (w:World)(k:Nat)(z:Array Obj):Bw w (grow (w.drewN k) z):=
 ⟨rfl,rfl,rfl,by simp[grow,World.drewN],fun i D=>by simp[grow,World.drewN,Array.getElem?_append_left D]⟩
theorem uT (n:Nat)(w:World)(z:QI w)(I:n<=4611686018427387903):Calls prog 189 #[.int .i64 n] w fun e w'=>e=.returned (.string (sf n))/\Bw w w':=by
 have H:decide ((n:Int)<0)=false:=dF (by omega);have E:Hid ((⟨(Lib.itoa (n:Int)).toArray⟩:BA)=sf n):=by
  show _=_;unfold Lib.itoa sf;rw[if_neg (by omega),Int.toNat_natCast,EH]
 have F:=fH z.tab;clear z;go_in;go_wp2_with fail;refine(Tryz.strconv_Itoa n (by omega) (by omega) _ F).mono ?_;rintro e w' ⟨rfl,k,D,rfl⟩;rw[E.out];go_wp2;go_ret;exact⟨rfl,QJ w k D⟩
def zI (s:BA):Nat:=if jO 0=s then 0 else if jO 1=s then 1 else if jO 2=s then 2 else if jO 3=s then 3 else 4
theorem adj (k:Nat)(z:k<4)(x:Nat->BA)(w:World):(Instr.index 62 (.agg #[.string (x 0),.string (x 1),.string (x 2),.string (x 3)]) (.int .i64 k)).run prog w=.ok (.string (x k)) w:=by
 rcases(by omega:k=0\/k=1\/k=2\/k=3) with rfl | rfl | rfl | rfl<;>kernel_rfl
theorem Yq {k:Nat}(D:k<4)(z:∀ j,j<k->¬ jO j=s)(h:jO k=s):zI s=k:=by
 unfold zI;rcases(by omega:k=0\/k=1\/k=2\/k=3) with rfl | rfl | rfl | rfl
 ·rw[if_pos h]
 ·rw[if_neg (z 0 (by omega)),if_pos h]
 ·rw[if_neg (z 0 (by omega)),if_neg (z 1 (by omega)),if_pos h]
 ·rw[if_neg (z 0 (by omega)),if_neg (z 1 (by omega)),if_neg (z 2 (by omega)),if_pos h]
theorem Vs (z:∀ j,j<4->¬ jO j=s):zI s=4:=by
 unfold zI;rw[if_neg (z 0 (by omega)),if_neg (z 1 (by omega)),if_neg (z 2 (by omega)),if_neg (z 3 (by omega))]
theorem Vt (s:BA):decide (zI s<4)=jg.contains (bl s):=by
 have D:jg=[bl (jO 0),bl (jO 1),bl (jO 2),bl (jO 3)]:=rfl;rw[bI,decide_eq_true_iff,D,List.contains_iff_mem];simp only[List.mem_cons,List.not_mem_nil,or_false];have z:∀ k,bl s=bl (jO k)↔jO k=s:=fun k=>⟨fun e=>(kG e).symm,fun e=>by rw[e]⟩
 rw[z 0,z 1,z 2,z 3];unfold zI
 repeat' split
 all_goals simp_all
theorem xX (s:BA)(w:World)(D:QI w):Calls prog 187 #[.string s] w fun e w'=>e=.returned (.int .i64 (zI s))/\w=w':=by
 have O:=D.prs 0 (by omega);have M:=D.prs 1 (by omega);have K:=D.prs 2 (by omega);have U:=D.prs 3 (by omega);clear D;go_in;go_wp2_with fail;clear O M K U;go_loop [6] (fun i=>∃ k:Nat,k<=4/\i=.int .i64 k/\Hid (∀ j,j<k->¬ jO j=s)) (fun i=>4-(intOf i).toNat)
 case atStart=>exact⟨0,by omega,rfl,fH (fun j I=>by omega)⟩
 case round=>
  obtain⟨k,V,rfl,H⟩:=hrel;by_cases z:k<4
  ·have J:=fun W=>adj k z jO W;cases hE:((jO k).toList==s.toList)
   ·have F:Hid (¬ jO k=s):=by show ¬ _;rw[kY] at hE;exact of_decide_eq_false hE
    go_wp2;go_round
    case rel=>exact⟨k+1,by omega,by go_num,fH (fun j I=>by
     by_cases e:j=k
     ·subst e;exact F.out
     ·exact H.out j (by omega))⟩
    case measure=>simp[intOf];omega
   ·have R:Hid (jO k=s):=by show _=_;rw[kY] at hE;exact dO hE
    go_wp2;go_ret;exact⟨fT (by rw[Yq z H.out R.out]),rfl⟩
  ·go_wp2;go_ret;exact⟨fT (by rw[Vs (fun j I=>H.out j (by omega))];rfl),rfl⟩
end
section
open Go.RowKit
theorem KR (l:LU)(c:UInt8):(Lib.cut l [c]).1.length<=l.length/\(Lib.cut l [c]).2.1.length<=l.length:=JV l [c]
theorem Yu (h:nD p=some (a,b)):a.length<=p.length/\b.length<=p.length:=by
 unfold nD at h;split at h
 ·split at h
  ·injection h with h;injection h with h1 h2;subst h1 h2;simp
  ·cases h
 ·split at h
  ·injection h with h;injection h with h1 h2;subst h1 h2;rw[List.length_take,List.length_drop];omega
  ·cases h
theorem Yv (h:qZ p=some (a,b)):a.length<=p.length/\b.length<=p.length:=by
 unfold qZ at h;split at h
 ·injection h with h;injection h with h1 h2;subst h1 h2;exact KR p 45
 ·cases h
theorem Vz (Z:iY fmt){d:LU}(h:la fmt l=some (a,b,d)):a.length<=l.length/\b.length<=l.length/\d.length<=l.length:=by
 rcases Z with rfl | rfl | rfl
 ·have h:mg l=some (a,b,d):=h;unfold mg at h;split at h
  ·cases h
  ·rename_i U p D;have V:U.length<=l.length/\p.length<=l.length:=by
    unfold kO at D;split at D
    ·split at D
     ·injection D with D;injection D with K F;subst K F;exact KR l 58
     ·cases D
    ·injection D with D;injection D with K F;subst K F;simp
   cases I:nD p with
   | none=>rw[I] at h;cases h
   | some y=>
    obtain⟨Y,y2⟩:=y;rw[I] at h;simp only[Option.map_some,Option.some.injEq,Prod.mk.injEq] at h;obtain⟨rfl,rfl,rfl⟩:=h;have:=Yu I;omega
 ·have h:mi l=some (a,b,d):=h;unfold mi at h;split at h
  ·cases h
  ·rename_i U p D;have V:U.length<=l.length/\p.length<=l.length:=by
    unfold nT at D;split at D
    ·split at D
     ·injection D with D;injection D with K F;subst K F;exact KR l 58
     ·cases D
    ·injection D with D;injection D with K F;subst K F;simp
   cases I:qZ p with
   | none=>rw[I] at h;cases h
   | some y=>
    obtain⟨Y,y2⟩:=y;rw[I] at h;simp only[Option.map_some,Option.some.injEq,Prod.mk.injEq] at h;obtain⟨rfl,rfl,rfl⟩:=h;have:=Yv I;omega
 ·have h:oI l=some (a,b,d):=h;unfold oI at h;cases ha:rz l with
  | none=>rw[ha] at h;cases h
  | some x=>
   obtain⟨J,p,q⟩:=x;rw[ha] at h;simp only[Option.map_some,Option.some.injEq,Prod.mk.injEq] at h;obtain⟨rfl,rfl,rfl⟩:=h;refine⟨z0,?_⟩;have O:∀ k z r J t,km k z r=some (J,t)->t.length<=r.length:=by
    intro k
    induction k with
    | zero=>intro z r J t h;cases h
    | succ k ih=>
     intro z r J t h;unfold km at h;split at h
     ·split at h
      ·cases h
      ·have:=ih _ _ _ _ h;simp only[List.length_drop,List.length_cons] at this |-;omega
     ·injection h with h;injection h with _ F;subst F;exact Nat.le_refl _
   have R:∀ k H z l J t,lI k H z l=some (J,t)->t.length<=l.length:=by
    intro k
    induction k with
    | zero=>intro H z l J t h;cases h
    | succ k ih=>
     intro H z l J t h;unfold lI at h;split at h
     ·cases h
     ·split at h
      ·rename_i r I;have F:=ih _ _ _ _ _ h;have X:=congrArg List.length I;rw[List.length_drop,List.length_cons] at X;omega
      ·injection h with h;injection h with _ F;subst F;rename_i I;rw[List.length_drop];omega
   have M:∀ z l,(mr z l).2.length<=l.length:=by
    intro z l;unfold mr;split
    ·split<;>simp
    ·simp
   unfold rz at ha;split at ha
   ·cases ha
   ·rename_i a r hn;split at ha
    ·cases ha
    ·rename_i b t hs;have K:=R _ _ _ _ _ _ hn;have F:=O _ _ _ _ _ hs;have X:=M a r;unfold tF at ha;split at ha
     ·injection ha with ha;injection ha with _ ha;injection ha with h5 h6;subst h5 h6;simp
     ·split at ha
      ·injection ha with ha;injection ha with _ ha;injection ha with h5 h6;subst h5 h6;rw[List.length_take];simp only[List.length_cons] at F;omega
      ·cases ha
     ·cases ha
theorem sW (fmt:Int)(F:iY fmt)(s:BA)(w:World)(Y:Gl w)(X:s.size<=9223372036854775807):Calls prog 108 #[.int .i64 fmt,.string s] w fun e w'=>∃ ep pr rv:BA,e=.returned (.tuple #[.string ep,.string pr,.string rv,.int .i64 (gL fmt s)]) /\
   (gL fmt s=0->la fmt (bl s)=some (bl ep,bl pr,bl rv)/\s.size<=64/\ep.size<=64/\pr.size<=64/\rv.size<=64)/\Bw w w':=by
 by_cases z:64<s.size
 ·refine(rb fmt s w X (.inr z)).mono fun e w' ⟨H,U⟩=>⟨⟨#[]⟩,⟨#[]⟩,⟨#[]⟩,H,fun D=>?_,by rw[<-U];exact bR⟩
  unfold gL at D;rw[if_neg (fun J=>J F),if_pos z] at D;cases D
 ·refine(ra fmt F s w Y (by omega)).mono fun e w' ⟨ep,pr,rv,c,H,I,R⟩=>?_;have E:gL fmt s=Cf (la fmt (bl s)):=by unfold gL;rw[if_neg (fun J=>J F),if_neg z]
  cases hx:la fmt (bl s) with
  | none=>
   rw[hx] at I;obtain⟨rfl,rfl,rfl,rfl⟩:=I;refine⟨⟨#[]⟩,⟨#[]⟩,⟨#[]⟩,by rw[H,E,hx];rfl,fun D=>?_,R⟩;rw[E,hx] at D;cases D
  | some x=>
   obtain⟨a,b,d⟩:=x;rw[hx] at I;obtain⟨rfl,M,K,O⟩:=I;refine⟨ep,pr,rv,by rw[H,E,hx];rfl,fun _=>?_,R⟩;have V:=Vz F hx;rw[<-M,<-K,<-O,fI,fI,fI,fI] at V;refine⟨by rw[M,K,O],by omega,by omega,by omega,by omega⟩
theorem Q1:(prog.info? 78).map (fun i=>(i.zero,i.size,i.bytes))=some (some (.agg #[.string ⟨#[]⟩,.int .i64 0,.string ⟨#[]⟩]),3,40):=by kernel_rfl
theorem Fs:(prog.info? 81).map (fun i=>(i.zero,i.size,i.bytes))=some (some (.agg #[.string ⟨#[]⟩,.string ⟨#[]⟩,.slice none 0 0]),3,56):=by kernel_rfl
theorem NF {lo lo':Nat}{e1 e2:TypeId}{z1 z2 n1 n2:Nat}{v1 v2:Value}{x1 x2:LV}(R:w.ownsRow lo e1 z1 v1 n1 x1)(M:w.ownsRow lo' e2 z2 v2 n2 x2)(F:e1≠e2):v1.ownBlock=none\/v1.ownBlock≠v2.ownBlock:=by
 rcases R.2 with⟨rfl,_⟩ | ⟨g,cap,J,rfl,_,O,_⟩
 ·exact .inl rfl
 ·right;intro D;rcases M.2 with⟨rfl,_⟩ | ⟨K,I,H,rfl,_,z,_⟩
  ·cases D
  ·injection D with D;have D:g=K:=D;subst D;rw[O] at z;injection z with z;injection z with _ hh3;exact F hh3
theorem fV.grownQ {b:Nat}{r:Option Nat}{vs:LV}(h:fV wr b vs)(F:wr.grownBy w' r)(z:some b≠r):fV w' b vs:=by
 have D:w'.heap[b]?=wr.heap[b]?:=F.block b h.sz (fun e=>z e);refine⟨Nat.lt_of_lt_of_le h.sz F.size,fun j u I=>?_,fun j H=>?_⟩
 ·exact(World.cell?_of_block (a:=⟨b,j,none⟩) D).trans (h.cell j u I)
 ·exact(World.frozen?_of_block (a:=⟨b,j,none⟩) D).trans (h.free j H)
def gj.ownC (x:gj)(w:World)(lo:Nat):Prop:=w.ownsRow lo 78 3 (.slice x.ga x.gives.length x.gc) x.gives.length (x.gives.flatMap fP.cells)
structure KY (w wr:World) (out:List gj) (A:OA) (n c:Nat):Prop where
 len:out.length=n
 row:wr.ownsRow w.heap.size 81 3 (.slice A n c) n (out.flatMap gj.cells)
 gv:∀ x∈out,x.ownC wr w.heap.size
 bel:Bw w wr
theorem KY.start (w:World):KY w w [] none 0 0:=⟨rfl,World.ownsRow_nil _ _ _ _,by simp,bR⟩
theorem KY.below {out:List gj}(h:KY w wr out A n c)(z:Bw wr w'):KY w w' out A n c:=
 ⟨h.len,ge h.row z,fun x D=>ge (h.gv x D) z,fM h.bel z⟩
theorem KY.ok {out:List gj}(h:KY w wr out A n c):AJ wr A out:=⟨by rw[h.len];exact gR h.row,fun x z=>gR (h.gv x z)⟩
theorem KY.more {w2:World}{out:List gj}{A1:OA}{c1:Nat}{x:gj}(h:KY w wr out A n c)(D:x.ownC wr w.heap.size)
  (H:w2.ownsRow w.heap.size 81 3 (.slice A1 (n+1) c1) (n+1) (out.flatMap gj.cells++x.cells))
  (z:wr.grownBy w2 (Value.slice A n c).ownBlock):KY w w2 (out++[x]) A1 (n+1) c1:=by
 refine⟨by simp[h.len],by rw[List.flatMap_append];simpa using H,fun t ht=>?_,h.bel.grown z h.bel.size (fun j F=>(h.row.lt j F).1)⟩;rcases List.mem_append.1 ht with ht | ht
 ·exact(h.gv t ht).kept z (NF (h.gv t ht) h.row (by decide))
 ·obtain rfl:=List.mem_singleton.1 ht;exact D.kept z (NF D h.row (by decide))
theorem ut (w:World)(t:TypeId)(x y z:Value):nE (w.alloc (.cells #[x,y,z] t)) (w.heap.size+1) 3 (some ⟨w.heap.size,0,none⟩) 1 [x,y,z]:=by
 refine⟨rfl,fun _=>⟨_,rfl,by simp,fun j u D=>?_⟩⟩;rw[show Addr.add ⟨w.heap.size,0,none⟩ j=⟨w.heap.size,j,none⟩ by unfold Addr.add;split<;>simp_all];exact(fV.new w [x,y,z] t).cell j u D
theorem Q3 (A:OA)(c:Nat)(l:List fP)(w:World)(U:Rd w 3 A l.length (l.flatMap fP.cells))(hn:l.length<=100000):Calls prog 29 #[.slice A l.length c] w (pY w 78 3 l.length (l.flatMap fP.cells)):=by
 obtain⟨Z,M,H,I,K⟩:=info_parts Q1;have R:=fH U;clear U;have q:∀ (w:World)(a:OA)(n c D F:Nat),(binOp .eql 34 (.slice a n c) (.slice none D F)).run prog w=.ok (.bool a.isNone) w:=fun w a n c D F=>Lib.run_eql_slice_nil w _ _ a n c D F underlying34;cases A with
 | none=>
  have hl:l=[]:=by
   cases l with
   | nil=>rfl
   | cons a r=>obtain⟨_,_,h,_⟩:=R.2 (by simp);cases h
  subst hl;go_in;go_wp2;go_ret;exact⟨_,rfl,World.ownsRow_nil _ _ _ _,bR⟩
 | some a=>
  have V:=fH ((R.below (bR.alloc lr (.cells #[] 78))).reads (by decide));go_in
  go_wp2_with (
   at_builtin
   refine fR _ rfl _ _ 34 rfl w.heap.size 78 Z _ 3 40 underlying34 M H I K rfl (by omega) (.slice (some ⟨w.heap.size,0,none⟩) 0 0) 0 [] rfl (World.ownsRow_made w #[] 0 lr z0 rfl) _ (some a) l.length c _ rfl V.out (tK LY l) (by simp only[maxLen];omega) (by omega) (by simp) ?_;intro Y w1 z J O)
  go_ret;exact⟨Y,rfl,by simpa using z,((Below.refl _ w).alloc lr _).grown J (by simp) (by intro k X;simp[Value.ownBlock] at X;omega)⟩
def fZ.inst (p:fZ):jo:=⟨p.nm,p.ver,p.gives⟩
def aaE (l:List fZ)(w:World)(e:Ending)(w':World):Prop:=∃ (Ao:OA)(co:Nat)(out:List gj),e=.returned (.slice Ao out.length co)/\KY w w' out Ao out.length co/\out.map gj.plain=l.map fZ.inst
theorem AV (A:OA)(c:Nat)(l:List fZ)(w:World)(hd:vl w A l)(hl:l.length<=100000)(hf:∀ p∈l,p.few):Calls prog 13 #[.slice A l.length c] w (aaE l w):=by
 obtain⟨i0,ae,ac,af,ag⟩:=info_parts Fs;have HD:=fH hd;have HF:=fH hf;clear hd hf;go_in;go_wp2;go_loopw [8,3] (fun s8 s3 wr=>∃ (k:Nat) (z:List gj) (I:OA) (H:Nat),k<=l.length/\s8=.int .i64 k/\s3=.slice I k H/\Hid (KY w wr z I k H)/\Hid (z.map gj.plain=(l.take k).map fZ.inst)) (fun s8 _ _=>l.length-(intOf s8).toNat)
 case atStart=>exact⟨0,[],none,0,z0,rfl,rfl,KY.start w,rfl⟩
 case round=>
  obtain⟨k,z,I,H,hk,rfl,rfl,Z,HP⟩:=hrel;by_cases V:k<l.length
  ·obtain⟨p,hp⟩:∃ p,l[k]?=some p:=⟨_,gG V⟩
   have M:p∈l:=gM hp;obtain⟨b,off,hA,he⟩:=(HD.row.below Z.bel).elem lk k p hp;obtain⟨e0,e1,e2,e3,e4,e5,e6,e7,e8⟩:=cF9 he;simp only[Nat.add_zero] at e0;have aa:=fun W=>gi (T:=22) (E:=38) (sz:=9) (c:=c) underlying22 rfl sizeOf38 hA V W;obtain⟨U,J⟩:∃ U,wr.alloc (.cells #[.string p.nm,.string p.ver,.string p.ar,.string p.sm,.slice p.na p.needs.length p.nc,.slice p.ba p.bars.length p.bc,.slice p.ga p.gives.length p.gc,.slice p.fa p.files.length p.fc,.slice p.sa p.scripts.length p.sc] 38)=U:=⟨_,rfl⟩
   have bw:Bw wr U:=by rw[<-J];exact bR.alloc lr _
   have Y:Hid (fV U wr.heap.size p.cells):=by show fV _ _ _;rw[<-J];exact fV.new wr p.cells _
   have x0:=Y.cell 0 _ rfl;have x1:=Y.cell 1 _ rfl;have x6:=Y.cell 6 _ rfl;have S1:=fH (Z.below bw);have R:=Y.sz;have ad:=S1.bel.size;have CL:=fH (Q3 p.ga p.gc p.gives U.drew (((HD.all p M).gives.below S1.bel).drew) (HF p M).gives);have ab:Hid ((l.take (k+1)).map fZ.inst=(l.take k).map fZ.inst++[p.inst]):=by show _=_;rw[List.take_add_one,hp];simp
   have NB:Hid (some wr.heap.size≠(Value.slice I k H).ownBlock):=by intro e;have:=(Z.row.lt _ e.symm).2;omega
   clear hp hA he bw M;go_upto_region 5 with(fail)
   clear e0 e1 e2 e3 e4 e5 e6 e7 e8 aa J
   go_region_held3 (fun w'=>w'.cell? ⟨wr.heap.size,0,none⟩=some (.string p.nm)/\w'.cell? ⟨wr.heap.size,1,none⟩=some (.string p.ver)/\w'.cell? ⟨wr.heap.size,6,none⟩=some (.slice p.ga p.gives.length p.gc))
    (first
      | exact⟨x0,x1,x6⟩
      | exact⟨(F.cell (p:=⟨_,_,none⟩) R).trans x0,(F.cell (p:=⟨_,_,none⟩) R).trans x1,(F.cell (p:=⟨_,_,none⟩) R).trans x6⟩
      | exact⟨(X4.alloc _).cell 0 _ rfl,(X4.alloc _).cell 1 _ rfl,(X4.alloc _).cell 6 _ rfl⟩
      | exact⟨X6.cell 0 _ rfl,X6.cell 1 _ rfl,X6.cell 6 _ rfl⟩
      | go_keep)
    (first
      | (go_at_call 29;refine CL.mono ?_;rintro e w4 ⟨v4,rfl,K,F⟩
         have X4:=fH (Y.drew.below F);have S4:Hid (KY w w4 z I k H):=(show KY w U.drew z I k H from S1.below ⟨rfl,rfl,rfl,lr,fun _ _=>rfl⟩).below F;obtain⟨A4,c4,rfl⟩:=gg K;have O4:=fH (gF K ad);have ai:=S4.bel.size)
      | (refine iF _ (by rfl) _ _ _ (by rfl) w.heap.size 81 i0 _ 3 56 underlying42 ae ac af ag rfl (by omega) (.slice I k H) k _ (by rfl) (S4.row.alloc _) (w4.heap.size+1) (some ⟨w4.heap.size,0,none⟩) 1 1 [.string p.nm,.string p.ver,.slice A4 p.gives.length c4] (by rfl) (ut w4 _ _ _ _) (by simp[Value.oneCell']) (by simp only[maxLen];omega) (by omega) (by simp;omega) ?_
         intro v6 w6 D O X;have X6:Hid (fV w6 wr.heap.size p.cells):=(X4.alloc _).grownQ O NB))
   all_goals
    obtain⟨A6,c6,rfl⟩:=gg D;have S6:Hid (KY w w6 (z++[⟨p.nm,p.ver,A4,c4,p.gives⟩]) A6 (k+1) c6):=(S4.below (bR.alloc lr _)).more (x:=⟨p.nm,p.ver,A4,c4,p.gives⟩) (ge O4 (bR.alloc lr _)) D O;have P6:Hid ((z++[(⟨p.nm,p.ver,A4,c4,p.gives⟩:gj)]).map gj.plain=(l.take (k+1)).map fZ.inst):=by show _=_;rw[ab.out,List.map_append,HP.out];rfl
    clear D O X K F;go_wp2;go_roundw
    case rel=>exact⟨k+1,_,A6,c6,by omega,by go_num,rfl,S6,P6⟩
    case measure=>simp[intOf];omega
  ·have HE:Hid (k=z.length):=Z.len.symm;have ah:Hid (z.map gj.plain=l.map fZ.inst):=by show _=_;rw[HP.out,tL (by omega)]
   go_wp2;go_ret;exact⟨I,H,z,(by rw[<-HE.out];rfl),(by rw[<-HE.out];exact Z.out),ah⟩
def FK (a:Int):Nat:=if a=1 then 1 else if a=2 then 3 else 2
theorem SW {a:Int}(h:iY a):JQ a=(FK a:Int)/\FK a<4/\∀ k:jH,k.cells[1+FK a]?=some (.string (k.sum (lH a))):=by
 rcases h with rfl | rfl | rfl<;>exact⟨rfl,by decide,fun _=>rfl⟩
structure jH.small (k:jH):Prop where
 path:k.path.size<=1000000
 s0:k.s0.size<=1000000
 s1:k.s1.size<=1000000
 s2:k.s2.size<=1000000
 s3:k.s3.size<=1000000
theorem jH.small.sum {k:jH}(h:k.small)(i:Int):(k.sum i).size<=1000000:=by
 unfold jH.sum
 repeat' split
 ·exact h.s1
 ·exact h.s2
 ·exact h.s3
 ·exact h.s0
theorem acH {sz b:Nat}{xs:LV}{ms:List oq}(h:Rd w sz A n xs)(H:0<sz)(M:ki w b ms)(U:w.grownBy wr (some b)):Rd wr sz A n xs:=by
 refine⟨h.1,fun K=>?_⟩;obtain⟨g,off,e,J⟩:=h.2 K;have X:0<xs.length:=by rw[h.1];exact Nat.mul_pos K H
 have D:g≠b:=by
  intro z;subst z;obtain⟨V,F,R,_⟩:=M;have:=J 0 xs[0] (by simp);simp[World.cell?,R] at this
 refine⟨g,off,e,fun j u O=>?_⟩;have I:=J j u O;exact(World.cell?_of_block (a:=⟨g,off+j,none⟩) (U.block g (World.block_lt_of_cell? _ _ I) (by intro z;injection z with z;exact D z))).trans I
def fZ.instL (p:fZ):gj:=⟨p.nm,p.ver,p.ga,p.gc,p.gives⟩
theorem OO (l:List fZ):(l.map fZ.instL).map gj.plain=l.map fZ.inst:=by rw[List.map_map];rfl
theorem OQ {W:World}(h:Below n w W):Below n w W.drew:=⟨h.os,h.tape,h.output,h.size,h.block⟩
def ZK (l:List fZ)(w:World)(e:Ending)(w':World):Prop:=∃ (Ao:OA)(co:Nat),e=.returned (.slice Ao l.length co)/\AJ w' Ao (l.map fZ.instL)/\Bw w w'
theorem Lv (w:World)(t:TypeId)(x y z:Value):nE ((w.alloc (.cells #[x,y,z] t)).drew) (w.heap.size+1) 3 (some ⟨w.heap.size,0,none⟩) 1 [x,y,z]:=ut w t x y z
theorem abE (A:OA)(c:Nat)(l:List fZ)(w:World)(hd:vl w A l)(hl:l.length<=100000):Calls prog 15 #[.slice A l.length c] w (ZK l w):=by
 obtain⟨i0,aa,X,Y,Z⟩:=info_parts Fs;have HD:=fH hd;clear hd;go_in;go_wp2;go_loopw [4,3] (fun U s3 wr=>∃ (k:Nat) (F:OA) (O:Nat),k<=l.length/\U=.int .i64 k/\s3=.slice F k O/\Hid (wr.ownsRow w.heap.size 81 3 (.slice F k O) k (((l.take k).map fZ.instL).flatMap gj.cells))/\Hid (Bw w wr)) (fun U _ _=>l.length-(intOf U).toNat)
 case atStart=>exact⟨0,none,0,z0,rfl,rfl,World.ownsRow_nil _ _ _ _,bR⟩
 case round=>
  obtain⟨k,F,O,hk,rfl,rfl,HO,J⟩:=hrel;by_cases H:k<l.length
  ·obtain⟨p,D⟩:∃ p,l[k]?=some p:=⟨_,gG H⟩
   obtain⟨b,off,hA,R⟩:=(HD.row.below J).elem lk k p D;have e0:=R 0 _ rfl;have e1:=R 1 _ rfl;have e6:=R 6 _ rfl;simp only[Nat.add_zero] at e0;have ab:=fun W=>gi (T:=22) (E:=38) (sz:=9) (c:=c) underlying22 rfl sizeOf38 hA H W;have V:Hid (((l.take (k+1)).map fZ.instL).flatMap gj.cells=((l.take k).map fZ.instL).flatMap gj.cells++[.string p.nm,.string p.ver,.slice p.ga p.gives.length p.gc]):=by show _=_;rw[List.take_add_one,D,List.map_append,List.flatMap_append];rfl
   have K:=J.size;generalize p.gives.length=gl at *;clear D hA R;go_wp2
   go_region_law
    (refine iF _ (by rfl) _ _ _ (by rfl) w.heap.size 81 i0 _ 3 56 underlying42 aa X Y Z rfl (by omega) (.slice F k O) k _ (by rfl) ((HO.alloc _).drew) (wr.heap.size+1) (some ⟨wr.heap.size,0,none⟩) 1 1 [.string p.nm,.string p.ver,.slice p.ga gl p.gc] (by rfl) (Lv wr _ _ _ _) (by simp[Value.oneCell']) (by simp only[maxLen];omega) (by omega) (by simp;omega) ?_
     intro v6 w6 z M I)
   all_goals
    obtain⟨A6,c6,rfl⟩:=gg z;have O6:Hid (w6.ownsRow w.heap.size 81 3 (.slice A6 (k+1) c6) (k+1) (((l.take (k+1)).map fZ.instL).flatMap gj.cells)):=by
     show World.ownsRow _ _ _ _ _ _ _;rw[V.out];exact z
    have L6:Hid (Bw w w6):=(OQ (J.alloc K _)).grown M (Nat.le_trans K (by simp)) (fun p D=>(HO.lt p D).1);clear z M I;go_wp2;go_roundw
    case rel=>exact⟨k+1,A6,c6,by omega,by go_num,rfl,O6,L6⟩
    case measure=>simp[intOf];omega
  ·have HE:Hid (k=l.length):=by show _=_;omega
   have HF:Hid (AJ wr F (l.map fZ.instL)):=by
    have ho:=HO.out;rw[HE.out,tL lr] at ho;refine⟨by rw[List.length_map];exact gR ho,fun x hx=>?_⟩;obtain⟨p,D,rfl⟩:=List.mem_map.1 hx;exact((HD.all p D).gives).below J.out
   go_wp2;go_ret;exact⟨F,O,(by rw[HE.out];rfl),HF,J⟩
end
end Go.Proofs.YtkmjcombhjombaaGreatDoor
