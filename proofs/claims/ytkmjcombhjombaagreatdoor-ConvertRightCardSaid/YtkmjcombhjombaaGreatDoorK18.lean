/- A part of the proof. -/
import Derived.Test.YtkmjcombhjombaaGreatDoorK11
import Derived.Test.YtkmjcombhjombaaGreatDoorK15
set_option maxRecDepth 100000
set_option maxHeartbeats 20000000
set_option linter.unusedVariables false
set_option linter.unusedSimpArgs false
namespace Go.Proofs.YtkmjcombhjombaaGreatDoor
variable{s:BA}{fmt:Int}{l r:LU}{vs:List Value}{base cb op x:Nat}{row:Option Nat}{p:UInt8->Bool}{w w' wr:World}
theorem JO {w:LU}(hw:w≠[])(hall:w.all p=true)(hr:∀ x,r.head?=some x->p x=false):uq p (w++r)=some (w,r):=by
 have h:=uV hall hr;have y:0<w.length:=List.length_pos_iff.2 hw;unfold uq;rw[h,if_neg (by omega),List.take_left,List.drop_left]
theorem rC (h:jZ l=true){x:UInt8}(hx:x∈l):(ru x || [43,46,45].contains x)=true:=by
 unfold jZ tX at h;simp only[Bool.and_eq_true] at h;exact List.all_eq_true.1 h.2.1 x hx
theorem qD (h:jZ l=true):∃ a r,l=a::r/\ru a=true:=by
 unfold jZ tX at h;simp only[Bool.and_eq_true] at h;cases l with
 | nil=>simp[tW] at h
 | cons a r=>exact⟨a,r,rfl,h.2.2⟩
theorem tK (h:jZ l=true):2<=l.length/\l.length<=64:=by
 unfold jZ at h;simp only[Bool.and_eq_true,decide_eq_true_eq] at h;exact⟨h.1.1,h.1.2⟩
theorem sf (x:UInt8)(h:(ru x || [43,46,45].contains x)=true):KU x=false/\Gf x=false/\jN x=false/\x≠33/\x≠32/\x≠40/\x≠41:=by
 have:=nk (fun x=>!(ru x || [43,46,45].contains x)||(!KU x && !Gf x && !jN x && !(x==33) && !(x==32) && !(x==40) && !(x==41))) (by kernel_rfl) x;simp only[h,Bool.not_true,Bool.false_or,Bool.and_eq_true,Bool.not_eq_true',bF,ne_eq] at this;exact⟨this.1.1.1.1.1.1,this.1.1.1.1.1.2,this.1.1.1.1.2,this.1.1.1.2,this.1.1.2,this.1.2,this.2⟩
theorem In (x:UInt8)(h:ru x=true):KU x=false/\Gf x=false/\jN x=false/\x≠33/\x≠32/\x≠40/\x≠41:=sf x (by rw[h];rfl)
structure kP.bare (t:kP):Prop where
 name:jZ t.name=true
 qual:t.qual=[]
 archs:t.archs=[]
 op:t.op<=5
 none:t.op=0->t.ver=[]
 ver:t.op≠0->kf 1 (ke t.ver)=0/\t.ver≠[]/\∀ x∈t.ver,KR x=false
def Rn (r:LU):Prop:=r=[]\/(∃ q,r=44::q)\/∃ q,r=32::124::q
theorem TV (h:Rn r):∀ x,r.head?=some x->KU x=true/\x≠58:=by
 intro x y;rcases h with rfl | ⟨q,rfl⟩ | ⟨q,rfl⟩
 ·simp at y
 ·simp only[List.head?_cons,Option.some.injEq] at y;subst y;decide
 ·simp only[List.head?_cons,Option.some.injEq] at y;subst y;decide
theorem TW (h:Rn r):jl 40 (jq r)=false/\jl 91 (jq r)=false/\jl 58 r=false:=by
 rcases h with rfl | ⟨q,rfl⟩ | ⟨q,rfl⟩
 ·exact⟨rfl,rfl,rfl⟩
 ·rw[mg (by decide)];exact⟨rfl,rfl,rfl⟩
 ·rw[oE,mg (by decide)];exact⟨rfl,rfl,rfl⟩
theorem aaq (h0:op≠0)(h5:op<=5)(r:LU):AG (KW op++32::r)=(op,32::r):=by
 rcases(by omega:op=1\/op=2\/op=3\/op=4\/op=5) with rfl | rfl | rfl | rfl | rfl<;>simp[KW,AG,jl]
theorem YT (h0:op≠0)(h5:op<=5)(r:LU):jq (KW op++r)=KW op++r:=by
 rcases(by omega:op=1\/op=2\/op=3\/op=4\/op=5) with rfl | rfl | rfl | rfl | rfl<;>exact mg (by decide)
theorem JP (h:∀ x∈l,p x=false):l.all (fun x=>!p x)=true:=by
 rw[List.all_eq_true];intro x y;rw[h x y];rfl
theorem Et {t:kP}(h:t.bare){R:LU}(hR:Rn R):oS (t.text++R)=some (t,jq R):=by
 obtain⟨nm,q,op,v,ar⟩:=t;obtain⟨V,h2,h3,Y,h5,h6⟩:=h;simp only at V h2 h3 Y h5 h6;subst h2 h3;obtain⟨a,r,ea,_⟩:=qD V;have H:nm≠[]:=by rw[ea];simp
 have z:nm.all vX=true:=JP (p:=KU) fun x y=>(sf x (rC V y)).1;obtain⟨O,J,X⟩:=TW hR;by_cases D:op=0
 ·obtain rfl:=h5 D;subst D;have e:(kP.mk nm [] 0 [] []).text++R=nm++R:=by simp[kP.text]
  have ht:=JO H z (r:=R) (fun x y=>by show(!KU x)=false;rw[(TV hR x y).1];rfl);rw[e];unfold oS;rw[ht];simp only;have M:qS R=some ([],R):=by unfold qS;rw[X];rfl
  have U:qp (jq R)=some (0,[],jq R):=by unfold qp;rw[O];rfl
  have K:oW (jq R)=some ([],jq R):=by unfold oW;rw[J];rfl
  simp only[M,U,K]
 ·obtain⟨hv,I,F⟩:=h6 D;have e:(kP.mk nm [] op v []).text++R=nm++(32::40::(KW op++32::(v++41::R))):=by simp[kP.text,D]
  have ht:=JO H z (r:=32::40::(KW op++32::(v++41::R))) (fun x y=>by simp only[List.head?_cons,Option.some.injEq] at y;subst y;rfl);have Z:uq uE (v++41::R)=some (v,41::R):=JO I (JP (p:=KR) F) (fun x y=>by simp only[List.head?_cons,Option.some.injEq] at y;subst y;rfl);have N:jq (32::(v++41::R))=v++41::R:=by
   rw[oE];cases v with
   | nil=>exact absurd rfl I
   | cons b w=>
    have:=F b (by simp);exact mg (by unfold KR at this;simp only[Bool.or_eq_false_iff] at this;exact this.1.1.1.1.1.1)
  rw[e];unfold oS;rw[ht];simp only;have M:qS (32::40::(KW op++32::(v++41::R)))=some ([],32::40::(KW op++32::(v++41::R))):=by unfold qS;rfl
  have hs:jq (32::40::(KW op++32::(v++41::R)))=40::(KW op++32::(v++41::R)):=by rw[oE,mg (by decide)]
  have U:qp (40::(KW op++32::(v++41::R)))=some (op,v,jq R):=by
   unfold qp;simp only[jl,List.drop_succ_cons,List.drop_zero];rw[if_pos (by rfl)];unfold CO;rw[YT D Y,aaq D Y];unfold lf;rw[if_neg D,N,Z];simp only;unfold sI;rw[mg (by decide)];rfl
  have K:oW (jq R)=some ([],jq R):=by unfold oW;rw[J];rfl
  simp only[M,hs,U,K]
theorem qj (x y:LU)(r:List (LU))(sep:LU):Lib.join (x::y::r) sep=x++sep++Lib.join (y::r) sep:=by
 simp[Lib.join,List.intercalate]
theorem zS {t:kP}(h:t.bare):∃ a r,t.text=a::r/\(a==32)=false:=by
 obtain⟨a,r,e,y⟩:=qD h.name;refine⟨a,_,by unfold kP.text;rw[e];simp only[List.cons_append];rfl,by simpa using(In a y).2.2.2.2.1⟩
theorem Eu {t:kP}{ts:List kP}(h:t.bare)(sep:LU):∃ a r,Lib.join ((t::ts).map kP.text) sep=a::r/\(a==32)=false:=by
 obtain⟨a,r,e,y⟩:=zS h;cases ts with
 | nil=>exact⟨a,r,by rw[List.map_singleton,Lib.join_one,e],y⟩
 | cons u us=>exact⟨a,_,by rw[List.map_cons,List.map_cons,qj,e];simp only[List.cons_append];rfl,y⟩
theorem zT:∀ (ts:List kP)(sep:LU),(∀ t∈ts,t.bare)->ts.length<=(Lib.join (ts.map kP.text) sep).length
 | [],_,_=>by simp
 | [t],sep,h=>by
  obtain⟨a,r,e,_⟩:=zS (h t (by simp));rw[List.map_singleton,Lib.join_one,e];simp
 | t::u::us,sep,h=>by
  obtain⟨a,r,e,_⟩:=zS (h t (by simp));have:=zT (u::us) sep (fun x y=>h x (List.mem_cons_of_mem _ y));rw[List.map_cons,List.map_cons,qj,e];rw[List.map_cons] at this;simp only[List.length_append,List.length_cons] at this |-;omega
def ZO (r:LU):Prop:=r=[]\/∃ q,r=44::q
theorem Pn (h:ZO r):jq r=r/\jl 124 r=false/\Rn r:=by
 rcases h with rfl | ⟨q,rfl⟩
 ·exact⟨rfl,rfl,.inl rfl⟩
 ·exact⟨mg (by decide),rfl,.inr (.inl ⟨q,rfl⟩)⟩
theorem uW:∀ (ts:List kP)(f:Nat)(R:LU),ts≠[]->ts.length<=f->(∀ t∈ts,t.bare)->ZO R->mZ f (Lib.join (ts.map kP.text) [32,124,32]++R)=some (ts,R)
 | [],_,_,h,_,_,_=>absurd rfl h
 | _::_,0,_,_,h,_,_=>by simp at h
 | [t],f+1,R,_,_,h,hR=>by
  obtain⟨I,y,z⟩:=Pn hR;rw[List.map_singleton,Lib.join_one];unfold mZ;rw[Et (h t (by simp)) z];simp only[I,y];rfl
 | t::u::us,f+1,R,_,hf,h,hR=>by
  have F:=uW (u::us) f R (by simp) (by simp at hf |-;omega) (fun x K=>h x (List.mem_cons_of_mem _ K)) hR;obtain⟨a,r,e,D⟩:=Eu (ts:=us) (h u (by simp)) [32,124,32];have M:Lib.join ((t::u::us).map kP.text) [32,124,32]++R=t.text++(32::124::32::(Lib.join ((u::us).map kP.text) [32,124,32]++R)):=by
   rw[List.map_cons,List.map_cons,qj];simp
  rw[M];unfold mZ;rw[Et (h t (by simp)) (.inr (.inr ⟨_,rfl⟩))];have J:jq (32::124::32::(Lib.join ((u::us).map kP.text) [32,124,32]++R))=124::32::(Lib.join ((u::us).map kP.text) [32,124,32]++R):=by rw[oE,mg (by decide)]
  have H:jq (32::(Lib.join ((u::us).map kP.text) [32,124,32]++R))=Lib.join ((u::us).map kP.text) [32,124,32]++R:=by rw[oE,e,List.cons_append,mg D]
  simp only[J];rw[if_pos (by rfl),List.drop_succ_cons,List.drop_zero,H,F];rfl
def JQ (g:List kP):LU:=Lib.join (g.map kP.text) [32,124,32]
theorem oO (L:List (List kP)):lO L=Lib.join (L.map JQ) [44,32]:=rfl
theorem zU {g:List kP}(hn:g≠[])(h:∀ t∈g,t.bare):∃ a r,JQ g=a::r/\(a==32)=false:=by
 cases g with
 | nil=>exact absurd rfl hn
 | cons t ts=>exact Eu (h t (by simp)) _
theorem yC:∀ (L:List (List kP))(f:Nat),L≠[]->L.length<=f->(∀ g∈L,g≠[]/\∀ t∈g,t.bare)->ou f (lO L)=some L
 | [],_,h,_,_=>absurd rfl h
 | _::_,0,_,h,_=>by simp at h
 | [g],f+1,_,_,h=>by
  have y:=h g (by simp);have D:=zT g [32,124,32] y.2;have:=uW g ((JQ g).length+1) [] y.1 (by unfold JQ;omega) y.2 (.inl rfl);rw[List.append_nil] at this;rw[oO,List.map_singleton,Lib.join_one];unfold ou;rw[show Lib.join (g.map kP.text) [32,124,32]=JQ g from rfl] at this;rw[this];rfl
 | g::g2::L,f+1,_,hf,h=>by
  have y:=h g (by simp);have H:=yC (g2::L) f (by simp) (by simp at hf |-;omega) (fun x J=>h x (List.mem_cons_of_mem _ J));have N:lO (g::g2::L)=JQ g++44::32::lO (g2::L):=by
   rw[oO,oO,List.map_cons,List.map_cons,qj];simp
  have D:=zT g [32,124,32] y.2;have:=uW g ((JQ g++44::32::lO (g2::L)).length+1) (44::32::lO (g2::L)) y.1 (by rw[List.length_append];unfold JQ;omega) y.2 (.inr ⟨_,rfl⟩);have I:jq (32::lO (g2::L))=lO (g2::L):=by
   have z:=h g2 (by simp);obtain⟨a,r,e,F⟩:=zU z.1 z.2;have:∃ q,lO (g2::L)=a::q:=by
    cases L with
    | nil=>exact⟨r,by rw[oO,List.map_singleton,Lib.join_one,e]⟩
    | cons g3 M=>exact⟨_,by rw[oO,List.map_cons,List.map_cons,qj,e];simp only[List.cons_append];rfl⟩
   obtain⟨q,K⟩:=this;rw[oE,K,mg F]
  rw[N];unfold ou;rw[show Lib.join (g.map kP.text) [32,124,32]=JQ g from rfl] at this;rw[this];simp only[List.isEmpty_cons,Bool.false_eq_true,if_false];rw[if_pos (by rfl),List.drop_succ_cons,List.drop_zero,I,H];rfl
theorem zV:∀ (L:List (List kP)),(∀ g∈L,g≠[]/\∀ t∈g,t.bare)->L.length<=(lO L).length
 | [],_=>by simp
 | [g],h=>by
  obtain⟨a,r,e,_⟩:=zU (h g (by simp)).1 (h g (by simp)).2;rw[oO,List.map_singleton,Lib.join_one,e];simp
 | g::g2::L,h=>by
  have:=zV (g2::L) (fun x y=>h x (List.mem_cons_of_mem _ y));rw[oO] at this |-;rw[List.map_cons,List.map_cons,qj];rw[List.map_cons] at this;simp only[List.length_append,List.length_cons] at this |-;omega
theorem AU {L:List (List kP)}(hne:L≠[])(h:∀ g∈L,g≠[]/\∀ t∈g,t.bare)(hs:(L.map List.length).sum<=64):mB (lO L)=some L:=by
 obtain⟨g,M,rfl⟩:∃ g M,L=g::M:=by cases L with | nil=>exact absurd rfl hne | cons g M=>exact⟨g,M,rfl⟩
 have H:=h g (by simp);obtain⟨a,r,e,D⟩:=zU H.1 H.2;have K:∃ q,lO (g::M)=a::q:=by
  cases M with
  | nil=>exact⟨r,by rw[oO,List.map_singleton,Lib.join_one,e]⟩
  | cons g3 M=>exact⟨_,by rw[oO,List.map_cons,List.map_cons,qj,e];simp only[List.cons_append];rfl⟩
 obtain⟨q,I⟩:=K;have J:jq (lO (g::M))=lO (g::M):=by rw[I,mg D]
 have z:=yC (g::M) ((lO (g::M)).length+1) (by simp) (by have:=zV (g::M) h;omega) h;have N:tn (lO (g::M))=some (g::M):=by
  unfold tn;rw[J,z,I];rfl
 have D:Bl (g::M)=true:=by
  unfold Bl;rw[dT hs,Bool.and_true,List.all_eq_true];intro x O;rw[List.all_eq_true];intro t ht;have y:=(h x O).2 t ht;unfold kP.right;rw[y.name,y.qual,y.archs];by_cases F:t.op=0
  ·rw[dT F];rfl
  ·rw[dT (y.ver F).1];simp
 unfold mB;rw[N];simp[D]
section
open Go.RowKit
def Ub (c:kh):Int:=if rp c=true then 0 else 11
theorem uZ {c:kh}(h:rp c=false):Ub c=11:=by unfold Ub;rw[if_neg (by rw[h];simp)]
def sh (c:kh):Bool:=(c.pre.isEmpty&&decide (c.pnum=0))||nG.contains c.pre
theorem Uc {c:kh}(h:c.nums=[]):rp c=false:=by unfold rp;rw[h];rfl
theorem Ud {c:kh}(hx:x∈[c.ep,c.pnum,c.rev]++c.nums)(h:¬ x<=999999999):rp c=false:=by
 cases hb:rp c with
 | false=>rfl
 | true=>
  have ok:=(vy c).1 hb;rw[List.mem_append] at hx;rcases hx with hx | hx
  ·simp only[List.mem_cons,List.not_mem_nil,or_false] at hx;rcases hx with rfl | rfl | rfl
   ·exact absurd ok.ep h
   ·exact absurd ok.pnum h
   ·exact absurd ok.rev h
  ·exact absurd (ok.each x hx) h
theorem Pv {c:kh}(h0:c.nums≠[])(hn:∀ x∈[c.ep,c.pnum,c.rev]++c.nums,x<=999999999):rp c=(Rl c.lt&&(sh c&&decide ((jU 1 c).length<=64))):=by
 unfold rp sh;have I:c.nums.isEmpty=false:=by cases h:c.nums with | nil=>exact absurd h h0 | cons a r=>rfl
 have D:(c.nums.all fun n=>decide (n<=999999999))=true:=by rw[List.all_eq_true];intro x H;exact dT (hn x (List.mem_append_right _ H))
 have z:=hn c.ep (by simp);have y:=hn c.pnum (by simp);have F:=hn c.rev (by simp);rw[I,D,dT z,dT y,dT F];simp
structure CoS (w wr:World) (c:kU):Prop where
 bel:Below w.heap.size w wr
 box:jh wr w.heap.size c.cells
theorem CoS.step {c:kU}(h:CoS w wr c)(hb:Below wr.heap.size wr w'):CoS w w' c:=⟨jc h.bel hb,h.box.below hb⟩
theorem Rd.three (w:World)(a b d:Nat):Rd (w.alloc (.cells #[.int .i64 a,.int .i64 b,.int .i64 d] 3)) 1 (some ⟨w.heap.size,0,none⟩) [a,b,d].length (kI [a,b,d]):=by
 refine⟨rfl,fun _=>⟨_,_,rfl,fun j u y=>?_⟩⟩;have:=(jh.new w (kI [a,b,d]) 3).cell j u y;simpa [kI] using this
theorem Pw (c:kU)(w:World)(hG:Ps w)(hc:c.ok w)(hf:c.few):Calls Tryz.prog 134 #[c.val] w fun e w'=>e=.returned (.int .i64 (Ub c.plain))/\Below w.heap.size w w':=by
 have HG:=iV hG;have HC:=iV hc;have Y:=iV hf;clear hG hc hf;have ar:=Y.out.len;obtain⟨K,ab⟩:∃ K,w.alloc (.cells #[.int .i64 c.ep,.slice c.na c.nums.length c.nc,.string c.lt,.string c.pre,.int .i64 c.pnum,.int .i64 c.rev] 159)=K:=⟨_,rfl⟩
 have X:Hid (CoS w K c):=by show CoS _ _ _;rw[<-ab];exact⟨bR.alloc lr _,jh.new w c.cells _⟩
 have k0:=X.out.box.cell 0 _ rfl;have k1:=X.out.box.cell 1 _ rfl;have k4:=X.out.box.cell 4 _ rfl;have k5:=X.out.box.cell 5 _ rfl;unfold kU.val;by_cases N:c.nums.length=0
 ·have q:((c.nums.length:Int)==0)=true:=by rw[N];rfl
  have E:=iV (uZ (Uc (c:=c.plain) (List.length_eq_zero_iff.1 N)));clear N;go_in;go_wp2;go_ret;exact⟨jz E.out.symm,X.out.bel⟩
 have q:((c.nums.length:Int)==0)=false:=beq_eq_false_iff_ne.2 (by omega);have ap:Hid (c.plain.nums≠[]):=by intro e;apply N;rw[show c.nums=[] from e];rfl
 clear N;obtain⟨M,aa⟩:∃ M,K.alloc (.cells #[.int .i64 c.ep,.int .i64 c.pnum,.int .i64 c.rev] 3)=M:=⟨_,rfl⟩
 obtain⟨W2,Z⟩:∃ W2,M.alloc (.cells #[.slice (some ⟨K.heap.size,0,none⟩) 3 3,.slice c.na c.nums.length c.nc] 157)=W2:=⟨_,rfl⟩
 have B1:Hid (Below K.heap.size K M):=by rw[<-aa];exact bR.alloc lr _
 have B2:Hid (Below M.heap.size M W2):=by rw[<-Z];exact bR.alloc lr _
 have D3:Hid (Rd M 1 (some ⟨K.heap.size,0,none⟩) [c.ep,c.pnum,c.rev].length (kI [c.ep,c.pnum,c.rev])):=by show Rd _ _ _ _ _;rw[<-aa];exact Rd.three K c.ep c.pnum c.rev
 have K2:Hid (jh W2 M.heap.size [.slice (some ⟨K.heap.size,0,none⟩) 3 3,.slice c.na c.nums.length c.nc]):=by show jh _ _ _;rw[<-Z];exact jh.new M [.slice (some ⟨K.heap.size,0,none⟩) 3 3,.slice c.na c.nums.length c.nc] _
 have R2:=iV ((X.out.step B1.out).step B2.out);have al:M.cell? ⟨w.heap.size,1,none⟩=some (.slice c.na c.nums.length c.nc):=(X.out.step B1.out).box.cell 1 _ rfl;go_in;go_wp2_with fail;refine(Pu M.heap.size (some ⟨K.heap.size,0,none⟩) c.na 3 c.nc [c.ep,c.pnum,c.rev] c.nums W2 (K2.out.cell 0 _ rfl) (K2.out.cell 1 _ rfl) (D3.out.below B2.out) (Rd.below HC.out R2.out.bel) (by simp) (by simp) (by omega)).mono ?_;rintro e w3 ⟨R,cap,rfl,hR,ad⟩;have RL:=iV hR;have z:=iV (R2.out.step ad);clear hR ad k0 k1 k4 k5 al ab aa Z X R2 B1 B2 D3 K2 q;obtain⟨L,hL⟩:∃ L,[c.ep,c.pnum,c.rev]++c.nums=L:=⟨_,rfl⟩
 have HL:=iV hL;have ax:L.length<=1003:=by rw[<-hL];simp;omega
 rw[hL] at RL;rw[hL];clear hL;have am:Hid (∀ x∈L,x<=4611686018427387903):=by
  intro x F;rw[<-HL.out,List.mem_append] at F;rcases F with F | F
  ·simp only[List.mem_cons,List.not_mem_nil,or_false] at F;rcases F with rfl | rfl | rfl
   ·exact Y.out.ep
   ·exact Y.out.pnum
   ·exact Y.out.rev
  ·exact Y.out.each x F
 go_wp2;go_loopw [21] (fun i wr=>∃ k:Nat,k<=L.length/\i=.int .i64 k/\Hid (∀ x∈L.take k,x<=999999999)/\wr=w3) (fun i _=>L.length-(intOf i).toNat)
 case atStart=>exact⟨0,z0,rfl,by simp[Hid],rfl⟩
 case round=>
  obtain⟨k,hk,rfl,HT,rfl⟩:=hrel;by_cases ag:k<L.length
  ·obtain⟨x,F⟩:∃ x,L[k]?=some x:=⟨_,gG ag⟩
   obtain⟨b,off,hA,he⟩:=RL.out.num k x F;have aq:=fun W=>jm (T:=157) (E:=3) (sz:=1) (c:=cap) Tryz.underlying157 rfl Tryz.sizeOf3 hA ag W;simp only[Nat.mul_one] at aq;have HX:=iV F;have av:=am.out x (gM F);clear F hA;have d1:decide ((x:Int)<0)=false:=dF (by omega);by_cases I:x<=999999999
   ·have d2:decide ((999999999:Int)<(x:Int))=false:=dF (by omega);have d3:decide (999999999<x)=false:=dF (by omega);have HB:=iV I;clear I;go_wp2;go_roundw
    case rel=>exact⟨k+1,by omega,by go_num,iV (fun y hy=>by
     obtain⟨an,ao⟩:=gS HX.out;rw[tS an,ao] at hy;rcases List.mem_append.1 hy with hy | hy
     ·exact HT.out y hy
     ·rw[List.mem_singleton.1 hy];exact HB.out),by trivial⟩
    case measure=>simp[intOf];omega
   ·have d2:decide ((999999999:Int)<(x:Int))=true:=dT (by omega);have d3:decide (999999999<x)=true:=dT (by omega);have E:=iV (uZ (Ud (c:=c.plain) (x:=x) (by rw[show[c.plain.ep,c.plain.pnum,c.plain.rev]++c.plain.nums=L from HL.out];exact gM HX.out) I));clear I;go_wp2;go_ret;exact⟨jz E.out.symm,z.out.bel⟩
  ·have H:Hid (rp c.plain=(Rl (bl c.lt)&&(sh c.plain&&decide ((jU 1 c.plain).length<=64)))):=
    Pv ap.out (fun x F=>HT.out x (by rw[tL (by omega)];rw[<-HL.out];exact F))
   have k2:=z.out.box.cell 2 _ rfl;have k3:=z.out.box.cell 3 _ rfl;have k4:=z.out.box.cell 4 _ rfl;have ay:=Y.out.lt;have au:=Y.out.pre;go_upto_region 9 with(fail)
   go_cut [47] (fun s wx=>∃ U:Bool,s=.bool U/\Hid (U=!Rl (bl c.lt))/\wr=wx)
   case first=>
    obtain⟨pb,J⟩:∃ pb,c.lt.toList.isEmpty=pb:=⟨_,rfl⟩
    cases pb
    rotate_left
    ·have O:c.lt.size=0:=by rw[iY,jB] at J;exact dO J
     have E:Hid (false=!Rl (bl c.lt)):=by show _=_;rw[kw c.lt O];rfl
     clear O;go_wp2;go_meet;exact⟨false,rfl,E,rfl⟩
    ·have O:¬ c.lt.size=0:=by intro h;rw[iY,jB,dT h] at J;cases J
     by_cases p1:c.lt.size=1
     ·have d1:((c.lt.size:Int) != 1)=false:=by rw[p1];rfl
      have af:0<c.lt.size:=by omega
      have E:Hid ((!lF c.lt[0])=!Rl (bl c.lt)):=by
       show _=_;have ht:(bl c.lt).tail=[]:=by rw[<-List.drop_one];exact List.drop_of_length_le (by rw[iX];omega)
       rw[pi c.lt af,ht];rfl
      clear O p1;go_wp2_with fail;refine(Eo c.lt[0] _).mono ?_;rintro e w' ⟨rfl,rfl⟩;go_wp2;go_meet;exact⟨_,rfl,E,rfl⟩
     ·have d1:((c.lt.size:Int) != 1)=true:=by simp[bne];omega
      have E:Hid (true=!Rl (bl c.lt)):=by
       show _=_;have hl:=iX c.lt
       match h:bl c.lt with
       | []=>rw[h] at hl;simp at hl;omega
       | [b]=>rw[h] at hl;simp at hl;omega
       | a::b::r=>rfl
      clear O p1;go_wp2;go_meet;exact⟨true,rfl,E,rfl⟩
   case rest=>
   obtain⟨U,rfl,D,rfl⟩:=hcut;clear k2;cases U
   case true=>
    have E:=iV (uZ (c:=c.plain) (by rw[H.out];have:=D.out;revert this;cases Rl (bl c.lt)<;>simp));go_wp2;go_ret;exact⟨jz E.out.symm,z.out.bel⟩
   have HB:Hid (Rl (bl c.lt)=true):=by have:=D.out;show _=_;revert this;cases Rl (bl c.lt)<;>simp
   clear D;go_upto_region 11 with(fail)
   go_cut [66] (fun s wx=>∃ U:Bool,s=.bool U/\Hid (U=!sh c.plain)/\wr=wx)
   case first=>
    have ac:=iV (HG.out.below z.out.bel);obtain⟨pb,J⟩:∃ pb,c.pre.toList.isEmpty=pb:=⟨_,rfl⟩
    have ai:=iV J;cases pb
    rotate_left
    ·have O:bl c.pre=[]:=by have:=ai.out;rw[iY,jB] at this;exact kw c.pre (dO this)
     have E0:Hid (sh c.plain=decide (c.pnum=0)):=by
      show _=_;unfold sh;rw[show c.plain.pre=[] from O];show(true&&decide (c.pnum=0)||nG.contains [])=_;rw[show nG.contains []=false from by decide];simp
     clear O;by_cases V:c.pnum=0
     ·have d0:((c.pnum:Int) != 0)=false:=by rw[V];rfl
      have E:Hid (false=!sh c.plain):=by show _=_;rw[E0.out,dT V];rfl
      clear V;go_wp2;go_meet;exact⟨false,rfl,E,rfl⟩
     ·have d0:((c.pnum:Int) != 0)=true:=by simp[bne];omega
      have E:Hid (true=!sh c.plain):=by show _=_;rw[E0.out,dF V];rfl
      clear V;go_wp2;go_meet;exact⟨true,rfl,E,rfl⟩
    ·have O:bl c.pre≠[]:=by intro h;have:=ai.out;rw[iY,h] at this;cases this
     have E0:Hid (sh c.plain=decide (Aa c.pre<4)):=by
      show _=_;rw[Ua];unfold sh;have:c.plain.pre.isEmpty=false:=by cases h:bl c.pre with | nil=>exact absurd h O | cons a r=>show(bl c.pre).isEmpty=false;rw[h];rfl
      rw[this];rfl
     clear O;have ak:Aa c.pre<=4:=by unfold Aa;(repeat' split)<;>omega
     by_cases V:Aa c.pre=4
     ·have d0:((Aa c.pre:Int)==4)=true:=by rw[V];rfl
      have E:Hid (true=!sh c.plain):=by show _=_;rw[E0.out,dF];rfl
      clear V ak;go_wp2_with fail;refine(yD c.pre _ ac.out).mono ?_;rintro e w' ⟨rfl,rfl⟩;go_wp2;go_meet;exact⟨true,rfl,E,rfl⟩
     ·have d0:((Aa c.pre:Int)==4)=false:=beq_eq_false_iff_ne.2 (by omega);have E:Hid (false=!sh c.plain):=by show _=_;rw[E0.out,dT];rfl
      clear V ak;go_wp2_with fail;refine(yD c.pre _ ac.out).mono ?_;rintro e w' ⟨rfl,rfl⟩;go_wp2;go_meet;exact⟨false,rfl,E,rfl⟩
   case rest=>
   obtain⟨U,rfl,D,rfl⟩:=hcut;clear k3 k4;cases U
   case true=>
    have E:=iV (uZ (c:=c.plain) (by rw[H.out,HB.out];have:=D.out;revert this;cases sh c.plain<;>simp));go_wp2;go_ret;exact⟨jz E.out.symm,z.out.bel⟩
   have HP:Hid (sh c.plain=true):=by have:=D.out;show _=_;revert this;cases sh c.plain<;>simp
   clear D;have k0:=z.out.box.cell 0 _ rfl;have k1:=z.out.box.cell 1 _ rfl;have k2:=z.out.box.cell 2 _ rfl;have k3:=z.out.box.cell 3 _ rfl;have k4:=z.out.box.cell 4 _ rfl;have k5:=z.out.box.cell 5 _ rfl;go_wp2_with fail;refine(Iv 1 c _ (HG.out.below z.out.bel) (Rd.below HC.out z.out.bel) Y.out).mono ?_;rintro e w4 ⟨rfl,ae⟩;have B4:=iV (jc z.out.bel ae);clear ae k0 k1 k2 k3 k4 k5;obtain⟨T,hT⟩:∃ T:BA,(⟨(jU 1 c.plain).toArray⟩:BA)=T:=⟨_,rfl⟩
   have aj:Hid ((jU 1 c.plain).length=T.size):=by show _=_;rw[<-hT];simp[ByteArray.size]
   rw[hT];clear hT;by_cases ah:64<T.size
   ·have d1:decide ((64:Int)<(T.size:Int))=true:=dT (by omega);have d2:decide (64<T.size)=true:=dT ah;have E:=iV (uZ (c:=c.plain) (by rw[H.out,HB.out,HP.out,dF (by rw[aj.out];omega)];rfl));go_wp2;go_ret;exact⟨jz E.out.symm,B4.out⟩
   ·have d1:decide ((64:Int)<(T.size:Int))=false:=dF (by omega);have d2:decide (64<T.size)=false:=dF ah;have E:Hid (Ub c.plain=0):=by show _=_;unfold Ub;rw[if_pos (by rw[H.out,HB.out,HP.out,dT (by rw[aj.out];omega)];rfl)]
    go_wp2;go_ret;exact⟨jz E.out.symm,B4.out⟩
def va (r:LU×Int):Value:=.tuple #[.string ⟨r.1.toArray⟩,.int .i64 r.2]
theorem JT {c:kh}(h:ll fmt c=false):va (zN fmt c)=.tuple #[.string ⟨#[]⟩,.int .i64 11]:=by unfold zN;rw[if_neg (by rw[h];simp)];rfl
theorem JU {c:kh}(h:ll fmt c=true):va (zN fmt c)=.tuple #[.string ⟨(jU fmt c).toArray⟩,.int .i64 0]:=by unfold zN;rw[if_pos h];rfl
theorem Ue {c:kh}(h:rp c=false):ll fmt c=false:=by unfold ll;rw[h];rfl
theorem Uf {c:kh}(h:rp c=true)(hf:fmt=1\/fmt=2):ll fmt c=true:=by
 have y:=((vy c).1 h).short;unfold ll;rw[h,dF (by rintro⟨e,_⟩;omega)];rcases hf with rfl | rfl
 ·rw[dT y];rfl
 ·rw[YS,dT y];rfl
theorem EE (fmt:Int)(hfm:lE fmt)(c:kU)(w:World)(hG:Ps w)(hc:c.ok w)(hf:c.few):Calls Tryz.prog 81 #[.int .i64 fmt,c.val] w fun e w'=>e=.returned (va (zN fmt c.plain))/\Below w.heap.size w w':=by
 have HG:=iV hG;have HC:=iV hc;have HF:=iV hf;clear hG hc hf;have y:uu fmt=false:=by unfold uu;rw[dT hfm];rfl
 have U:=iV fun W=>zQ fmt W;rw[y] at U;have aa:=iV hfm;clear y hfm;obtain⟨W0,I⟩:∃ W0,w.alloc (.cells #[.int .i64 c.ep,.slice c.na c.nums.length c.nc,.string c.lt,.string c.pre,.int .i64 c.pnum,.int .i64 c.rev] 159)=W0:=⟨_,rfl⟩
 have D:Hid (CoS w W0 c):=by show CoS _ _ _;rw[<-I];exact⟨bR.alloc lr _,jh.new w c.cells _⟩
 have X:=D.out.box.cell 0 _ rfl;have k1:=D.out.box.cell 1 _ rfl;have k2:=D.out.box.cell 2 _ rfl;have k3:=D.out.box.cell 3 _ rfl;have Z:=D.out.box.cell 4 _ rfl;have Y:=D.out.box.cell 5 _ rfl;unfold kU.val;go_in;go_wp2_with fail;clear I;refine(U.out _).mono ?_;rintro e w' ⟨rfl,rfl⟩;go_wp2_with fail;refine(Pw c _ (HG.out.below D.out.bel) (Rd.below HC.out D.out.bel) HF.out).mono ?_;rintro e w1 ⟨rfl,R⟩;have z:=iV (D.out.step R);clear R X k1 k2 k3 Z Y D;unfold Ub;cases hcb:rp c.plain
 ·have E:=iV (JT (Ue (fmt:=fmt) hcb));clear hcb;simp only[Bool.false_eq_true,if_false];go_wp2;go_ret2;exact⟨by rw[E.out];rfl,z.out.bel⟩
 have F:=iV hcb;clear hcb;simp only[if_true];have X:=z.out.box.cell 0 _ rfl;have k1:=z.out.box.cell 1 _ rfl;have k2:=z.out.box.cell 2 _ rfl;have k3:=z.out.box.cell 3 _ rfl;have Z:=z.out.box.cell 4 _ rfl;have Y:=z.out.box.cell 5 _ rfl;go_wp2_with fail;refine(Iv fmt c _ (HG.out.below z.out.bel) (Rd.below HC.out z.out.bel) HF.out).mono ?_;rintro e w2 ⟨rfl,M⟩;have O:=iV (z.out.step M);clear M X k1 k2 k3 Z Y z;obtain⟨T,V⟩:∃ T:BA,(⟨(jU fmt c.plain).toArray⟩:BA)=T:=⟨_,rfl⟩
 have N:Hid ((jU fmt c.plain).length=T.size):=by show _=_;rw[<-V];simp[ByteArray.size]
 have HT:=iV V;rw[V];clear V;have X:=O.out.box.cell 0 _ rfl;by_cases J:fmt=3
 ·have q3:(fmt==3)=true:=by rw[J];rfl
  have H3:=iV J;clear J;by_cases K:c.ep=0
  ·have qe:((c.ep:Int) != 0)=false:=by rw[K];rfl
   have HE:=iV K;clear K;by_cases H:64<T.size
   ·have d1:decide ((64:Int)<(T.size:Int))=true:=dT (by omega);have d2:decide (64<T.size)=true:=dT H;have E:=iV (JT (fmt:=fmt) (c:=c.plain) (by unfold ll;rw[F.out,dF (p:=(jU fmt c.plain).length<=64) (by rw[N.out];omega)];simp));clear H;go_wp2;go_ret2;exact⟨by rw[E.out];rfl,O.out.bel⟩
   ·have d1:decide ((64:Int)<(T.size:Int))=false:=dF (by omega);have d2:decide (64<T.size)=false:=dF H;have E:=iV (JU (fmt:=fmt) (c:=c.plain) (by unfold ll;rw[F.out,dT (p:=(jU fmt c.plain).length<=64) (by rw[N.out];omega),dF (p:=fmt=3/\c.plain.ep≠0) (by rintro⟨_,h⟩;exact h HE.out)];rfl));clear H;go_wp2;go_ret2;exact⟨by rw[E.out,HT.out];rfl,O.out.bel⟩
  ·have qe:((c.ep:Int) != 0)=true:=by simp[bne];omega
   have E:=iV (JT (fmt:=fmt) (c:=c.plain) (by unfold ll;rw[F.out,dT (p:=fmt=3/\c.plain.ep≠0) ⟨H3.out,K⟩];rfl));clear K;go_wp2;go_ret2;exact⟨by rw[E.out];rfl,O.out.bel⟩
 ·have q3:(fmt==3)=false:=by simpa using J
  have E:=iV (JU (Uf (fmt:=fmt) (c:=c.plain) F.out (by have:=aa.out;unfold lE at this;omega)));clear J;go_wp2;go_ret2;exact⟨by rw[E.out,HT.out];rfl,O.out.bel⟩
def EJ:List Value:=[.int .i64 0,.slice none 0 0,.string ⟨#[]⟩,.string ⟨#[]⟩,.int .i64 0,.int .i64 0]
structure JW (w wr:World) (cb:Nat) (vs:List Value):Prop where
 bel:Below w.heap.size w wr
 res:jh wr w.heap.size EJ
 box:jh wr cb vs
 lo:w.heap.size<cb
theorem JW.step (h:JW w wr cb vs)(hb:Below wr.heap.size wr w'):JW w w' cb vs:=⟨jc h.bel hb,h.res.below hb,h.box.below hb,h.lo⟩
theorem JW.set (h:JW w wr cb vs)(j:Nat)(hj:j<vs.length)(v:Value):JW w (wr.setCell ⟨cb,j,none⟩ v) cb (vs.set j v):=
 ⟨jb h.bel (Nat.le_of_lt h.lo) _,h.res.far (by have:=h.lo;omega) _,h.box.set j hj v,h.lo⟩
theorem Px {b:Nat}(h:jh wr b EJ):wr.cell? ⟨b,0,none⟩=some (.int .i64 0)/\wr.cell? ⟨b,1,none⟩=some (.slice none 0 0)/\wr.cell? ⟨b,2,none⟩=some (.string ⟨#[]⟩)/\wr.cell? ⟨b,3,none⟩=some (.string ⟨#[]⟩)/\wr.cell? ⟨b,4,none⟩=some (.int .i64 0)/\wr.cell? ⟨b,5,none⟩=some (.int .i64 0) /\
  wr.frozen? ⟨b,0,none⟩=false/\wr.frozen? ⟨b,1,none⟩=false/\wr.frozen? ⟨b,2,none⟩=false/\wr.frozen? ⟨b,3,none⟩=false/\wr.frozen? ⟨b,4,none⟩=false/\wr.frozen? ⟨b,5,none⟩=false:=
 ⟨h.cell 0 _ rfl,h.cell 1 _ rfl,h.cell 2 _ rfl,h.cell 3 _ rfl,h.cell 4 _ rfl,h.cell 5 _ rfl,h.free 0 (by decide),h.free 1 (by decide),h.free 2 (by decide),h.free 3 (by decide),h.free 4 (by decide),h.free 5 (by decide)⟩
abbrev YW (wr:World) (b:Nat) (v0 v1 v2 v3 v4 v5:Value):World:=(((((wr.setCell ⟨b,0,none⟩ v0).setCell ⟨b,1,none⟩ v1).setCell ⟨b,2,none⟩ v2).setCell ⟨b,3,none⟩ v3).setCell ⟨b,4,none⟩ v4).setCell ⟨b,5,none⟩ v5
theorem um (h:Below w.heap.size w wr)(v0 v1 v2 v3 v4 v5:Value):Below w.heap.size w (YW wr w.heap.size v0 v1 v2 v3 v4 v5):=
 jb (jb (jb (jb (jb (jb h lr _) lr _) lr _) lr _) lr _) lr _
theorem JX {tmps:Array Value}(h:jh wr w.heap.size EJ)(ht:tmps[4]?=some (.pointer (some ⟨w.heap.size,0,none⟩))){k:Int}(ht5:tmps[5]?=some (.int .i64 k))(a:Int)(A:Option Addr)(n c:Nat)(l p:BA)(x y:Int):
  (results Tryz.f80 tmps).run Tryz.prog (YW wr w.heap.size (.int .i64 a) (.slice A n c) (.string l) (.string p) (.int .i64 x) (.int .i64 y)) =
   .ok (.tuple #[.agg #[.int .i64 a,.slice A n c,.string l,.string p,.int .i64 x,.int .i64 y],.int .i64 k]) (YW wr w.heap.size (.int .i64 a) (.slice A n c) (.string l) (.string p) (.int .i64 x) (.int .i64 y)):=by
 obtain⟨I,D,F,z,J,H,K,M,U,R,N,O⟩:=Px h;simp(maxDischargeDepth:=9) [results,Tryz.results80,ht,ht5,go_sem,I,D,F,z,J,H]
theorem EK:∀ (l w:LU),Pi l w=Lib.hasPrefix l w
 | [],[]=>rfl
 | _::_,[]=>rfl
 | [],_::_=>rfl
 | a::l,b::w=>by
  have:=EK l w;unfold Lib.hasPrefix at this |-;simp only[Pi,List.isPrefixOf,this];rw[show(a==b)=(b==a) from Bool.eq_iff_iff.2 (by simp only[beq_iff_eq];exact eq_comm)]
theorem Py (k:Nat)(h:k<4):nG.take (k+1)=nG.take k++[bl (lR k)]:=by
 rcases(by omega:k=0\/k=1\/k=2\/k=3) with rfl | rfl | rfl | rfl<;>rfl
def AW (tail:LU)(k:Nat):LU×Nat:=(nG.take k).foldl (Em tail) ([],0)
theorem Pz (tail:LU)(k:Nat)(h:k<4):AW tail (k+1)=Em tail (AW tail k) (bl (lR k)):=by
 unfold AW;rw[Py k h,List.foldl_append];rfl
theorem Uh (tail:LU):AW tail 4=nG.foldl (Em tail) ([],0):=rfl
theorem jh.grownR {c:Nat}(h:jh wr c vs)(hg:wr.grownBy w' row)(hne:some c≠row):jh w' c vs:=by
 have y:w'.heap[c]?=wr.heap[c]?:=hg.block c h.sz hne;refine⟨Nat.lt_of_lt_of_le h.sz hg.size,fun j u D=>?_,fun j z=>?_⟩
 ·exact(World.cell?_of_block (a:=⟨c,j,none⟩) y).trans (h.cell j u D)
 ·exact(World.frozen?_of_block (a:=⟨c,j,none⟩) y).trans (h.free j z)
theorem JW.grown (h:JW w wr cb vs)(hg:wr.grownBy w' row)(hr:∀ g,row=some g->base<=g)(hb:cb<base):JW w w' cb vs:=by
 have lo:=h.lo;have D:some cb≠row:=fun e=>by have:=hr cb e.symm;omega
 have y:some w.heap.size≠row:=fun e=>by have:=hr _ e.symm;omega
 exact⟨h.bel.grown hg h.bel.size (fun j z=>by have:=hr j z;omega),h.res.grownR hg y,h.box.grownR hg D,lo⟩
theorem PB (w:World)(x:Value):oP (w.alloc (.cells #[x] 3)) (w.heap.size+1) 1 (some ⟨w.heap.size,0,none⟩) 1 [x]:=by
 refine⟨rfl,fun _=>⟨_,rfl,by simp,fun j u y=>?_⟩⟩;cases j with
 | zero=>simp at y;subst y;simp[Addr.add]
 | succ j=>simp at y
structure NuS (w w5 wr:World) (cb gb base:Nat) (nv:Value) (L:List Nat) (vs:Value->List Value):Prop where
 pc:JW w wr cb (vs nv)
 own:wr.ownsRow base 3 1 nv L.length (kI L)
 txt:wr.heap[gb]?=w5.heap[gb]?
 sz:base<=wr.heap.size
theorem NuS.app {w5 w6:World}{gb:Nat}{nv v1:Value}{L:List Nat}{a b c d e:Value}(h:NuS w w5 wr cb gb base nv L (fun v=>[a,v,b,c,d,e]))(o:Obj)
  (hown:w6.ownsRow base 3 1 v1 (L.length+1) (kI L++[.int .i64 x]))(hg:(wr.alloc o).grownBy w6 nv.ownBlock)(hcb:cb<base)(hgb:gb<base)(hne:gb≠cb):
  NuS w w5 (w6.setCell ⟨cb,1,none⟩ v1) cb gb base v1 (L++[x]) (fun v=>[a,v,b,c,d,e]):=by
 have F:∀ g,nv.ownBlock=some g->base<=g:=fun g z=>(h.own.lt g z).1;have I:=(h.pc.step (bR.alloc lr o)).grown hg F hcb;have y:w6.grownBy (w6.setCell ⟨cb,1,none⟩ v1) (some cb):=ji (World.grownBy.refl w6 (some cb)) (.inl rfl) _;refine⟨I.set 1 (by simp) v1,?_,?_,?_⟩
 ·have H:kI (L++[x])=kI L++[.int .i64 x]:=by simp[kI]
  rw[H,List.length_append,List.length_singleton];refine hown.kept y ?_;cases hq:v1.ownBlock with
  | none=>exact .inl rfl
  | some q=>right;intro D;injection D with D;have:=(hown.lt q hq).1;omega
 ·rw[Below.heap_setCell w6 ⟨cb,1,none⟩ v1 gb (by exact hne)];have J:=h.sz;rw[hg.block gb (by simp;omega) (fun e=>by have:=F gb e.symm;omega),Below.heap_alloc wr o gb (by omega)];exact h.txt
 ·have:=hg.size;have K:=y.size;have M:=h.sz;simp at this;omega
theorem Rp (hd:BA)(m:Nat)(hm:m<hd.size)(hz:hd.size=m+1):ro (bl hd)=if lF hd[m]=true then [hd[m]] else []:=by
 have:(bl hd).getLast?=some hd[m]:=by
  rw[List.getLast?_eq_getElem?,iX,hz,Nat.add_sub_cancel,gG (by rw[iX];exact hm),qt hd m hm]
 unfold ro;rw[this]
theorem PC (wr:World)(b:Nat)(v0 v1 v2 v3 v4 v5:Value):wr.grownBy (YW wr b v0 v1 v2 v3 v4 v5) (some b):=
 ji (ji (ji (ji (ji (ji (World.grownBy.refl wr (some b)) (.inl rfl) _) (.inl rfl) _) (.inl rfl) _) (.inl rfl) _) (.inl rfl) _) (.inl rfl) _
theorem YX {ep pr rv hd tl h' lt pw:BA}{SP:List BA}{epn pn rvn:Nat}(h1:(if bl ep=[] then 0 else mr (bl ep))=epn)(h2:mr (bl rv)=rvn)
  (h3:bl hd=(Lib.cut (bl pr) [xy fmt]).1)(h4:bl tl=(Lib.cut (bl pr) [xy fmt]).2.1)(h5:AW (bl tl) 4=(bl pw,pn))(h6:bl h'=AT (bl hd))(h7:bl lt=ro (bl hd))(h8:SP.map bl=lk 46 (bl h'))(Ao:Option Addr)(co:Nat):
  uT fmt (bl ep,bl pr,bl rv)=(⟨epn,Ao,co,SP.map fun d=>mr (bl d),lt,pw,pn,rvn⟩:kU).plain:=by
 rw[Uh] at h5;unfold uT kU.plain;simp only;rw[<-h3,<-h4,h5,<-h6,<-h7,<-h8,List.map_map,<-h1,<-h2];rfl
theorem WH {x:LU×LU×LU}(hv:kf fmt s=0)(hs:oz fmt (bl s)=some x)(h:fits fmt (bl s) (uT fmt x)=false):qi fmt s=11:=by
 have:uw fmt (bl s)=none:=by unfold uw;rw[hs];simp only;rw[if_neg (by rw[h];simp)]
 unfold qi;rw[if_neg (by simpa using hv),if_pos this]
theorem WI {x:LU×LU×LU}(hv:kf fmt s=0)(hs:oz fmt (bl s)=some x)(h:fits fmt (bl s) (uT fmt x)=true):qi fmt s=0/\uw fmt (bl s)=some (uT fmt x):=by
 have:uw fmt (bl s)=some (uT fmt x):=by unfold uw;rw[hs];simp only;rw[if_pos h]
 exact⟨by unfold qi;rw[if_neg (by simpa using hv),this,if_neg (by simp)],this⟩
def Ui (fmt:Int)(s:BA)(w:World)(e:Ending)(w':World):Prop:=
 ∃ cl:kU,e=.returned (.tuple #[cl.val,.int .i64 (qi fmt s)])/\cl.ok w'/\cl.few/\(qi fmt s=0->uw fmt (bl s)=some cl.plain)/\Below w.heap.size w w'
def kU.zero:kU:=⟨0,none,0,[],⟨#[]⟩,⟨#[]⟩,0,0⟩
theorem kU.zero_few:kU.zero.few:=⟨by decide,by simp[kU.zero],by decide,by decide,by decide,by decide,by decide⟩
theorem EO (fmt:Int)(hfm:lE fmt)(s:BA)(w:World)(hG:Ps w)(hs:s.size<=9223372036854775807):Calls Tryz.prog 80 #[.int .i64 fmt,.string s] w (Ui fmt s w):=by
 have HG:=iV hG;have aN:=iV hfm;clear hG hfm;obtain⟨W0,ai⟩:∃ W0,w.alloc (.cells #[.int .i64 0,.slice none 0 0,.string ⟨#[]⟩,.string ⟨#[]⟩,.int .i64 0,.int .i64 0] 159)=W0:=⟨_,rfl⟩
 have B0:Hid (Below w.heap.size w W0):=by rw[<-ai];exact bR.alloc lr _
 have K0:Hid (jh W0 w.heap.size EJ):=by show jh _ _ _;rw[<-ai];exact jh.new w EJ _
 go_in;go_wp2_with fail;clear ai;refine(YV fmt aN.out s _ (HG.out.below B0.out).gl hs).mono ?_;rintro e w1 ⟨ep,pr,rv,rfl,hS,aj⟩;have HS:=iV hS;have B1:=iV (jc B0.out aj);have K1:=iV (K0.out.below aj);clear hS aj B0 K0;by_cases hv:¬ kf fmt s=0
 ·have E:Hid (qi fmt s=kf fmt s):=by show _=_;unfold qi;rw[if_pos hv]
  have E0:Hid (¬ qi fmt s=0):=by show ¬ _;rw[E.out];exact hv
  have q:(kf fmt s != 0)=true:=by simpa [bne] using hv
  obtain⟨r0,r1,r2,r3,r4,r5,f0,f1,f2,f3,f4,f5⟩:=Px K1.out;generalize kf fmt s=ve at *;clear hv;go_wp2_with fail;refine bodyPost_ret (JX K1.out rfl rfl 0 none 0 0 _ _ 0 0) rfl ?_;exact⟨kU.zero,by rw[E.out];rfl,Rd.nil _ _ _,kU.zero_few,fun h=>absurd h E0.out,um B1.out _ _ _ _ _ _⟩
 have aa:kf fmt s=0:=Decidable.not_not.1 hv;obtain⟨ak,bw,bs,bn,bt⟩:=HS.out aa;have aF:=iV (WH aa ak);have aH:=iV (WI aa ak);have q:(kf fmt s != 0)=false:=by rw[aa];rfl
 generalize kf fmt s=ve at *;clear hv aa ak HS;obtain⟨W2,az⟩:∃ W2,w1.alloc (.cells #[.int .i64 0,.slice none 0 0,.string ⟨#[]⟩,.string ⟨#[]⟩,.int .i64 0,.int .i64 0] 159)=W2:=⟨_,rfl⟩
 have P0:Hid (JW w W2 w1.heap.size EJ):=by
  show JW _ _ _ _;rw[<-az];exact⟨jc B1.out (bR.alloc lr _),K1.out.alloc _,jh.new w1 EJ _,K1.out.sz⟩
 have aX:=iV P0.out.lo;clear B1 K1;obtain⟨pb,aA⟩:∃ pb,ep.toList.isEmpty=pb:=⟨_,rfl⟩
 go_upto_if 40 with(fail)
 have aQ:=iV aA;clear aA az;generalize w1.heap.size=cb at *;have bm:w.heap.size<cb:=aX.out;have bo:¬ w.heap.size=cb:=by omega
 have bq:¬ cb=w.heap.size:=by omega
 go_cut [40] (fun sl wx=>(∃ b:Bool,sl=.bool b)/\Hid (JW w wx cb [.int .i64 (if bl ep=[] then (0:Nat) else mr (bl ep):Nat),.slice none 0 0,.string ⟨#[]⟩,.string ⟨#[]⟩,.int .i64 0,.int .i64 0]))
 case first=>
  cases pb
  ·have e0:¬ bl ep=[]:=by intro h;have:=aQ.out;rw[iY,h] at this;cases this
   have E:Hid ((if bl ep=[] then (0:Nat) else mr (bl ep))=mr (bl ep)):=by show _=_;rw[if_neg e0]
   clear e0;have k0:=P0.out.box.cell 0 _ rfl;have f0:=P0.out.box.free 0 (by decide);go_wp2_with fail;refine(vB ep _ (by omega)).mono ?_;rintro e w' ⟨rfl,rfl⟩;have P1:=iV (P0.out.set 0 (by decide) (.int .i64 (mr (bl ep))));go_wp2;go_meet;exact⟨⟨_,rfl⟩,by rw[E.out];exact P1⟩
  ·have e0:bl ep=[]:=by have:=aQ.out;rw[iY,jB] at this;exact kw ep (dO this)
   have E:Hid ((if bl ep=[] then (0:Nat) else mr (bl ep))=0):=by show _=_;rw[if_pos e0]
   clear e0;go_wp2;go_meet;exact⟨⟨_,rfl⟩,by rw[E.out];exact P0⟩
 case rest=>
 obtain⟨⟨bB,rfl⟩,P1⟩:=hcut;clear P0;obtain⟨z,O⟩:∃ n:Nat,(if bl ep=[] then 0 else mr (bl ep))=n:=⟨_,rfl⟩
 have ba:=iV O;rw[O] at P1;have aP:Hid (z<=4611686018427387903):=by show _<=_;rw[<-O];split;omega;exact vC _
 clear O;have k5:=P1.out.box.cell 5 _ rfl;have f5:=P1.out.box.free 5 (by simp);go_wp2_with fail;refine(vB rv _ (by omega)).mono ?_;rintro e w' ⟨rfl,rfl⟩;obtain⟨y,R⟩:∃ n:Nat,mr (bl rv)=n:=⟨_,rfl⟩
 have aY:=iV R;have aM:Hid (y<=4611686018427387903):=by show _<=_;rw[<-R];exact vC _
 rw[R];clear R;have P2:Hid (JW w (wc.setCell ⟨cb,5,none⟩ (.int .i64 y)) cb [.int .i64 z,.slice none 0 0,.string ⟨#[]⟩,.string ⟨#[]⟩,.int .i64 0,.int .i64 y]):=P1.out.set 5 (by simp) (.int .i64 y);clear P1;go_upto_region 8 with(fail)
 clear k5 f5;generalize wc.setCell ⟨cb,5,none⟩ (.int .i64 y)=W3 at *;go_wp2_with fail;refine(Ep fmt _).mono ?_;rintro e w' ⟨rfl,rfl⟩;go_wp2_with fail;refine(kH pr (sx fmt) _ (HG.out.below P2.out.bel).gl (by omega)).mono ?_;rintro e w4 ⟨rfl,aB⟩;have P3:=iV (P2.out.step aB);clear aB P2;have aR:(pA pr (sx fmt)).size<=64:=by have:=xE pr (sx fmt);omega
 have bp:(rI pr (sx fmt)).size<=64:=by
  have h1:=(I9 (bl pr) (bl (sx fmt))).2;have V:=iX (rI pr (sx fmt));rw[oI] at V;have h3:=iX pr;omega
 have aU:Hid (bl (pA pr (sx fmt))=(Lib.cut (bl pr) [xy fmt]).1):=nh _ _;have bi:Hid (bl (rI pr (sx fmt))=(Lib.cut (bl pr) [xy fmt]).2.1):=oI _ _;generalize pA pr (sx fmt)=hd at *;generalize rI pr (sx fmt)=tl at *;generalize FZ pr (sx fmt)=kk at *;have g0:=(HG.out.below P3.out.bel).prs 0 (by omega);have g1:=(HG.out.below P3.out.bel).prs 1 (by omega);have g2:=(HG.out.below P3.out.bel).prs 2 (by omega);have g3:=(HG.out.below P3.out.bel).prs 3 (by omega);go_wp2_with fail;clear g0 g1 g2 g3;go_loopw [66] (fun i wr=>∃ (k F:Nat) (H:BA),k<=4/\i=.int .i64 k/\Hid (AW (bl tl) k=(bl H,F))/\Hid (F<=4611686018427387903)/\H.size<=1000/\Hid (JW w wr cb [.int .i64 z,.slice none 0 0,.string ⟨#[]⟩,.string H,.int .i64 F,.int .i64 y])) (fun i _=>4-(intOf i).toNat)
 case atStart=>exact⟨0,0,⟨#[]⟩,by omega,rfl,rfl,by show _<=_;omega,by decide,P3⟩
 case round=>
  clear P3;obtain⟨k,F,H,hk,rfl,HF,au,ax,P4⟩:=hrel;by_cases Y:k<4
  ·have ar:=fun W=>aa2 k Y lR W;have vs:(lR k).size<=5:=by rcases(by omega:k=0\/k=1\/k=2\/k=3) with rfl | rfl | rfl | rfl<;>decide
   have HN:=iV (Pz (bl tl) k Y);have k3:=P4.out.box.cell 3 _ rfl;have k4:=P4.out.box.cell 4 _ rfl;have f3:=P4.out.box.free 3 (by simp);have f4:=P4.out.box.free 4 (by simp);generalize lR k=wd at *;cases hbg:Pi (bl tl) (bl wd)
   ·have HH:Hid (Lib.hasPrefix (bl tl) (bl wd)=false):=by show _=_;rw[<-EK];exact hbg
    have E:Hid (AW (bl tl) (k+1)=(bl H,F)):=by show _=_;rw[HN.out,HF.out];unfold Em;rw[if_neg (by rw[hbg];simp)]
    clear hbg;go_wp2_with fail;refine(uc tl wd _ HH).mono ?_;rintro e w' ⟨rfl,rfl⟩;go_wp2;go_roundw
    case rel=>exact⟨k+1,F,H,by omega,by go_num,E,au,ax,P4⟩
    case measure=>simp[intOf];omega
   ·have HH:Hid (Lib.hasPrefix (bl tl) (bl wd)=true):=by show _=_;rw[<-EK];exact hbg
    have am:bl (tl.extract wd.size tl.size)=(bl tl).drop (bl wd).length:=by rw[lm,iX]
    have E:Hid (AW (bl tl) (k+1)=(bl wd,mr (bl (tl.extract wd.size tl.size)))):=by
     show _=_;rw[HN.out,HF.out,am];unfold Em;rw[if_pos hbg];rfl
    have bz:(tl.extract wd.size tl.size).size<=64:=by have:=iX (tl.extract wd.size tl.size);rw[am,List.length_drop] at this;have V:=iX tl;omega
    have P5:Hid (JW w (wr.setCell ⟨cb,3,none⟩ (.string wd)) cb [.int .i64 z,.slice none 0 0,.string ⟨#[]⟩,.string wd,.int .i64 F,.int .i64 y]):=P4.out.set 3 (by simp) (.string wd);clear hbg am;go_wp2_with fail;refine(sT tl wd _ HH).mono ?_;rintro e w' ⟨rfl,rfl⟩;go_wp2_with fail;generalize tl.extract wd.size tl.size=dg at *;refine(vB dg _ (by omega)).mono ?_;rintro e w' ⟨rfl,rfl⟩;have bk:Hid (mr (bl dg)<=4611686018427387903):=vC _;generalize mr (bl dg)=un at *;have P6:Hid (JW w ((wr.setCell ⟨cb,3,none⟩ (.string wd)).setCell ⟨cb,4,none⟩ (.int .i64 un)) cb [.int .i64 z,.slice none 0 0,.string ⟨#[]⟩,.string wd,.int .i64 un,.int .i64 y]):=P5.out.set 4 (by simp) (.int .i64 un);clear P5;go_wp2;go_roundw
    case rel=>exact⟨k+1,un,wd,by omega,by go_num,E,bk,by omega,P6⟩
    case measure=>simp[intOf];omega
  ·obtain rfl:k=4:=by omega
   clear hk Y;go_upto_region 19 with(fail)
   go_cut [95] (fun sl wx=>∃ bb:Bool,sl=.bool bb/\Hid (bb=!(ro (bl hd)).isEmpty)/\wr=wx)
   case first=>
    by_cases h0:0<hd.size
    rotate_left
    ·have d0:decide ((0:Int)<(hd.size:Int))=false:=dF (by omega);have d1:decide (0<hd.size)=false:=dF h0;have E:Hid (false=!(ro (bl hd)).isEmpty):=by show _=_;rw[kw hd (by omega)];rfl
     go_wp2;go_meet;exact⟨false,rfl,E,rfl⟩
    ·have d0:decide ((0:Int)<(hd.size:Int))=true:=dT (by omega);have d1:decide (0<hd.size)=true:=dT h0;obtain⟨m,hm⟩:∃ m,hd.size-1=m:=⟨_,rfl⟩
     have Z:m<hd.size:=by omega
     have aW:(m:Int)<(hd.size:Int):=by omega
     have iw:IntKind.i64.wrap ((hd.size:Int)-1)=(m:Int):=by rw[IntWalk.i64_in _ (by omega)];omega
     have E:Hid (lF hd[m]=!(ro (bl hd)).isEmpty):=by
      show _=_;rw[Rp hd m Z (by omega)];cases lF hd[m]<;>rfl
     clear hm;go_wp2_with fail;refine(Eo hd[m] _).mono ?_;rintro e w' ⟨rfl,rfl⟩;go_wp2;go_meet;exact⟨_,rfl,E,rfl⟩
   case rest=>
   obtain⟨bb,rfl,aq,rfl⟩:=hcut;go_upto_if 95 with(fail)
   go_cut [13] (fun sl wx=>∃ I lt:BA,sl=.string I/\Hid (bl I=AT (bl hd))/\I.size<=64/\Hid (bl lt=ro (bl hd))/\lt.size<=64/\Hid (JW w wx cb [.int .i64 z,.slice none 0 0,.string lt,.string H,.int .i64 F,.int .i64 y]))
   case first=>
    cases bb
    ·have L0:Hid (ro (bl hd)=[]):=by have:=aq.out;show _=_;revert this;cases ro (bl hd)<;>simp
     go_wp2;go_meet;exact⟨hd,⟨#[]⟩,rfl,by show _=_;unfold AT;rw[if_pos L0.out],aR,by show _=_;rw[L0.out];rfl,by decide,P4⟩
    ·obtain⟨m,hm⟩:∃ m,hd.size-1=m:=⟨_,rfl⟩
     have h0:0<hd.size:=by
      apply Classical.byContradiction;intro h;have:=aq.out;rw[kw hd (by omega)] at this;revert this;decide
     have Z:m<hd.size:=by omega
     have aW:(m:Int)<=(hd.size:Int):=by omega
     have iw:IntKind.i64.wrap ((hd.size:Int)-1)=(m:Int):=by rw[IntWalk.i64_in _ (by omega)];omega
     have hz:Hid (hd.size=m+1):=by show _=_;omega
     have L1:Hid (ro (bl hd)=[hd[m]]):=by
      have:=aq.out;have V:=Rp hd m Z hz.out;show _=_;rw[V] at this |-;revert this;cases lF hd[m]<;>simp
     have E1:Hid (bl (hd.extract 0 m)=AT (bl hd)):=by
      show _=_;unfold AT;rw[if_neg (by rw[L1.out];simp),mF,List.dropLast_eq_take,iX,hz.out];rfl
     have E2:Hid (bl (hd.extract m hd.size)=ro (bl hd)):=by
      show _=_;rw[L1.out,lm,List.drop_eq_getElem_cons (by rw[iX];exact Z),qt hd m Z,List.drop_of_length_le (by rw[iX,hz.out];omega)]
     have z1:(hd.extract 0 m).size<=64:=by have:=iX (hd.extract 0 m);rw[mF,List.length_take,iX] at this;omega
     have z2:(hd.extract m hd.size).size<=64:=by have:=iX (hd.extract m hd.size);rw[lm,List.length_drop,iX] at this;omega
     have k2:=P4.out.box.cell 2 _ rfl;have f2:=P4.out.box.free 2 (by simp);have P5:Hid (JW w (wr.setCell ⟨cb,2,none⟩ (.string (hd.extract m hd.size))) cb [.int .i64 z,.slice none 0 0,.string (hd.extract m hd.size),.string H,.int .i64 F,.int .i64 y]):=P4.out.set 2 (by simp) (.string (hd.extract m hd.size));clear hm;go_wp2;go_region;go_wp2;go_meet;exact⟨_,_,rfl,E1,z1,E2,z2,P5.out.step (jj bR 1)⟩
   case rest=>
   obtain⟨I,lt,rfl,HH,br,aT,aS,P5⟩:=hcut;clear P4;obtain⟨i0,hi,bg,aV,be⟩:=info_parts ED;go_wp2_with fail;refine(WE 46 I _ (HG.out.below P5.out.bel).gl (by omega)).mono ?_;rintro e w5 ⟨rfl,al,aG⟩;have P6:=iV (P5.out.step aG);have bv:=P5.out.box.sz;have aL:(ni 46 I).length<=65:=by unfold ni;rw[List.length_map];have:=EH 46 (bl I);rw[iX] at this;omega
   have aI:Hid (∀ x∈ni 46 I,x.size<=64):=by
    intro x hx;obtain⟨p,hp,rfl⟩:=List.mem_map.1 hx;have h1:=ul 46 (bl I) p hp;have V:=iX I;have h3:=iX (⟨p.toArray⟩:BA);rw[pd] at h3;omega
   have aJ:Hid ((ni 46 I).map bl=lk 46 (bl I)):=by
    show _=_;unfold ni;rw[List.map_map]
    conv=>rhs;rw[<-List.map_id (lk 46 (bl I))]
    exact List.map_congr_left fun p _=>pd p
   generalize wc.heap.size=gb at *;have ag:0<(ni 46 I).length:=by unfold ni;rw[List.length_map];exact List.length_pos_iff.2 (Ii 46 _)
   have RD:=iV al;have ae:gb<w5.heap.size:=by
    obtain⟨x,hx⟩:∃ x,(ni 46 I)[0]?=some x:=⟨_,gG ag⟩
    obtain⟨b,off,hA,he⟩:=al.str 0 x hx;have:=World.block_lt_of_cell? _ _ he;injection hA with hA;injection hA with h1 _ _;subst h1;exact this
   have ah:cb<w5.heap.size:=P6.out.box.sz;have aO:gb≠cb:=by omega
   clear al aG P5;obtain⟨J,ap⟩:∃ J,ni 46 I=J:=⟨_,rfl⟩
   rw[ap] at RD aI aJ aL ag;rw[ap];clear ap;obtain⟨base,ab⟩:∃ base,w5.heap.size=base:=⟨_,rfl⟩
   have N0:Hid (NuS w w5 w5 cb gb base (.slice none 0 0) [] (fun v=>[.int .i64 z,v,.string lt,.string H,.int .i64 F,.int .i64 y])):=
    ⟨P6.out,World.ownsRow_nil _ _ _ _,rfl,by omega⟩
   rw[ab] at ae ah;clear ab P6;go_wp2;go_loopw [108] (fun i wr=>∃ (k:Nat) (K:Option Addr) (M:Nat),k<=J.length/\i=.int .i64 k/\Hid (NuS w w5 wr cb gb base (.slice K k M) ((J.take k).map fun d=>mr (bl d)) (fun v=>[.int .i64 z,v,.string lt,.string H,.int .i64 F,.int .i64 y]))) (fun i _=>J.length-(intOf i).toNat)
   case atStart=>exact⟨0,none,0,z0,rfl,N0⟩
   case round=>
    clear N0;obtain⟨k,K,M,hk,rfl,D⟩:=hrel;by_cases Y:k<J.length
    ·obtain⟨x,hx⟩:∃ x,J[k]?=some x:=⟨_,gG Y⟩
     obtain⟨b,off,hA,he⟩:=RD.out.str k x hx;obtain⟨rfl,rfl⟩:gb=b/\0=off:=by injection hA with hA;injection hA with h1 V _;exact⟨h1,V⟩
     have e0:wr.cell? ⟨gb,0+k,none⟩=some (.string x):=(World.cell?_of_block (a:=⟨gb,0+k,none⟩) D.out.txt).trans he;have ar:=fun W=>jm (T:=33) (E:=9) (sz:=1) (c:=J.length) Tryz.underlying33 rfl Tryz.sizeOf9 hA Y W;simp only[Nat.mul_one,Nat.zero_add] at ar e0;have bA:=aI.out x (gM hx);have TK:Hid ((J.take (k+1)).map (fun d=>mr (bl d))=(J.take k).map (fun d=>mr (bl d))++[mr (bl x)]):=by
      show _=_;obtain⟨bd,bc⟩:=gS hx;rw[tS bd,bc];simp
     have LK:Hid (((J.take k).map fun d=>mr (bl d)).length=k):=by show _=_;rw[List.length_map,List.length_take];omega
     clear hx hA he;go_wp2_with fail;refine(vB x _ (by omega)).mono ?_;rintro e w' ⟨rfl,rfl⟩;clear e0 ar;obtain⟨un,an⟩:∃ un,mr (bl x)=un:=⟨_,rfl⟩
     rw[an] at TK;rw[an];clear an;obtain⟨LL,aC⟩:∃ LL,(J.take k).map (fun d=>mr (bl d))=LL:=⟨_,rfl⟩
     rw[aC] at D TK LK;clear aC;have k1:=D.out.pc.box.cell 1 _ rfl;have f1:=D.out.pc.box.free 1 (by simp);have HO:Hid (wr.ownsRow base 3 1 (.slice K k M) k (kI LL)):=by have:=D.out.own;rw[LK.out] at this;exact this
     have bx:=D.out.sz;have aK:=D.out.pc.box.sz;have FB:Hid (some cb≠(Value.slice K k M).ownBlock):=by intro e;have:=(HO.out.lt cb e.symm).1;omega
     go_wp2_with (
      at_builtin
      refine je _ rfl _ _ _ rfl base 3 i0 _ 1 8 Tryz.underlying157 hi bg aV be rfl (by omega) (.slice K k M) k _ rfl (HO.out.alloc _) (wr.heap.size+1) (some ⟨wr.heap.size,0,none⟩) 1 1 [.int .i64 un] rfl (PB wr _) (by simp[Value.oneCell']) (by simp only[maxLen];omega) (by omega) (by simp;omega) ?_;intro v1 w6 N ad av;obtain⟨A1,c1,rfl⟩:=jk N;have aZ:w6.cell? ⟨cb,1,none⟩=some (.slice K k M):=ad.cell ((World.cell?_alloc_lt wr _ ⟨cb,1,none⟩ aK).trans k1) FB.out;have bj:w6.frozen? ⟨cb,1,none⟩=false:=(World.frozen?_of_block (a:=⟨cb,1,none⟩) (ad.block cb (by simp;omega) FB.out)).trans (((bR.alloc lr _).frozen (p:=⟨cb,1,none⟩) aK).trans f1))
     have N1:=iV (D.out.app _ (x:=un) (by rw[LK.out];exact N) ad ah ae aO);clear N ad av k1 f1 aZ bj;go_wp2;go_roundw
     case rel=>exact⟨k+1,A1,c1,by omega,by go_num,by rw[TK.out];exact N1⟩
     case measure=>simp[intOf];omega
    ·obtain rfl:k=J.length:=by omega
     obtain⟨U,ac⟩:∃ U,J.map (fun d=>mr (bl d))=U:=⟨_,rfl⟩
     have HC:=iV (YX (fmt:=fmt) (ep:=ep) (pr:=pr) (rv:=rv) ba.out aY.out aU.out bi.out HF.out HH.out aT.out aJ.out K M);rw[List.take_length,ac] at D;rw[ac] at HC;have hl:J.length=U.length:=by rw[<-ac,List.length_map]
     have bf:Hid (∀ n∈U,n<=4611686018427387903):=by
      intro n hn;rw[<-ac] at hn;obtain⟨d,_,rfl⟩:=List.mem_map.1 hn;exact vC _
     have bu:U.length<=65:=by omega
     rw[hl] at D;have k0:=D.out.pc.box.cell 0 _ rfl;have k1:=D.out.pc.box.cell 1 _ rfl;have k2:=D.out.pc.box.cell 2 _ rfl;have k3:=D.out.pc.box.cell 3 _ rfl;have k4:=D.out.pc.box.cell 4 _ rfl;have k5:=D.out.pc.box.cell 5 _ rfl;have aD:Hid ((⟨z,K,M,U,lt,H,F,y⟩:kU).few):=⟨aP.out,bf.out,by show U.length<=1000;omega,by show lt.size<=1000;omega,ax,au.out,aM.out⟩
     clear ac hl;go_wp2_with fail;refine(EE fmt aN.out ⟨z,K,M,U,lt,H,F,y⟩ _ (HG.out.below D.out.pc.bel) (jL D.out.own) aD.out).mono ?_;rintro e w7 ⟨rfl,ao⟩;have X:=iV (D.out.pc.step ao);have O7:=iV (jp D.out.own ao);clear k0 k1 k2 k3 k4 k5 ao;obtain⟨r0,r1,r2,r3,r4,r5,f0,f1,f2,f3,f4,f5⟩:=Px X.out.res;cases hpb2:ll fmt (⟨z,K,M,U,lt,H,F,y⟩:kU).plain
     ·have E:Hid (qi fmt s=11):=aF.out (by rw[HC.out];unfold fits;rw[hpb2];rfl);rw[JT hpb2];clear hpb2;go_wp2_with fail;refine bodyPost_ret (JX X.out.res rfl rfl 0 none 0 0 _ _ 0 0) rfl ?_;exact⟨kU.zero,by rw[E.out];rfl,Rd.nil _ _ _,kU.zero_few,(fun h=>by rw[E.out] at h;cases h),um X.out.bel _ _ _ _ _ _⟩
     ·rw[JU hpb2];have af:=iV hpb2;clear hpb2;obtain⟨T,hT⟩:∃ T:BA,(⟨(jU fmt (⟨z,K,M,U,lt,H,F,y⟩:kU).plain).toArray⟩:BA)=T:=⟨_,rfl⟩
      have ay:Hid (jU fmt (⟨z,K,M,U,lt,H,F,y⟩:kU).plain=bl T):=by show _=_;rw[<-hT,pd]
      rw[hT];clear hT;obtain⟨tb,bh⟩:∃ tb,(T.toList==s.toList)=tb:=⟨_,rfl⟩
      have aE:=iV bh;cases tb
      ·have E:Hid (qi fmt s=11):=aF.out (by
        rw[HC.out];unfold fits;rw[af.out,ay.out];have:¬ bl T=bl s:=by intro h;have V:=aE.out;rw[mI] at V;exact of_decide_eq_false V (nH h)
        rw[dF this];rfl)
       go_wp2_with fail;refine bodyPost_ret (JX X.out.res rfl rfl 0 none 0 0 _ _ 0 0) rfl ?_;exact⟨kU.zero,by rw[E.out];rfl,Rd.nil _ _ _,kU.zero_few,(fun h=>by rw[E.out] at h;cases h),um X.out.bel _ _ _ _ _ _⟩
      ·have E:=iV (aH.out (by
        rw[HC.out];unfold fits;rw[af.out,ay.out];have:bl T=bl s:=by have V:=aE.out;rw[mI] at V;rw[dO V]
        rw[dT this];rfl))
       have k0:=X.out.box.cell 0 _ rfl;have k1:=X.out.box.cell 1 _ rfl;have k2:=X.out.box.cell 2 _ rfl;have k3:=X.out.box.cell 3 _ rfl;have k4:=X.out.box.cell 4 _ rfl;have k5:=X.out.box.cell 5 _ rfl;go_wp2_with fail;refine bodyPost_ret (JX X.out.res rfl rfl z K U.length M lt H F y) rfl ?_;refine⟨⟨z,K,M,U,lt,H,F,y⟩,by rw[E.out.1];rfl,?_,aD.out,(fun _=>by rw[E.out.2,HC.out]),um X.out.bel _ _ _ _ _ _⟩;refine jL (O7.out.kept (PC w7 w.heap.size _ _ _ _ _ _) ?_);cases hq:(Value.slice K U.length M).ownBlock with
       | none=>exact .inl rfl
       | some g=>right;intro he;injection he with he;have:=(O7.out.lt g hq).1;omega
end
end Go.Proofs.YtkmjcombhjombaaGreatDoor
