/- A part of the proof. -/
import Derived.Test.YtkmjcombhjombaaGreatDoorJ12
set_option maxRecDepth 100000
set_option maxHeartbeats 20000000
set_option linter.unusedVariables false
set_option linter.unusedSimpArgs false
namespace Go.Proofs.YtkmjcombhjombaaGreatDoor
variable{OP:BA}{R l l' l1 nm op p r:LU}{xs:LV}{a b c1 cB cc deep f h hb hi j k lo m m' mb n n' n1 o s s0:Nat}{A A1 B:OA}{v:Value}{W W' w w' w2 wb wr:World}
open Go.Proofs.Tryz
section
open Go.RowKit Go.Deep
theorem aal (s:BA)(k o:Nat)(h:k<s.size)(d:UInt8)(z:s[k]=d):oy o ((bl s).drop k)=if d==32 then 0 else if d==40 then oy (o+1) ((bl s).drop (k+1))+1 else if d==41 then (if o=0 then 0 else oy (o-1) ((bl s).drop (k+1))+1) else oy o ((bl s).drop (k+1))+1:=by
 rw[kL s k h,z];rfl
theorem UK (s:BA)(k o:Nat)(h:¬ k<s.size):oy o ((bl s).drop k)=0:=by rw[rP s k h];rfl
theorem Kr (s:BA)(p:Nat)(w:World)(Z:p<=s.size)(hs:s.size<=4294967280):Calls prog 146 #[.string s,.int .i64 p] w fun e w'=>e=.returned (.int .i64 ((p+oy 0 ((bl s).drop p):Nat):Int))/\w=w':=by
 obtain⟨R,V⟩:∃ R,p+oy 0 ((bl s).drop p)=R:=⟨_,rfl⟩
 rw[V];have J:=fH V;go_in;go_wp2;go_loop [1,4,5] (fun i Y o=>∃ k n:Nat,i=.int .i64 k/\Y=.int .i64 0/\o=.int .i64 n/\k<=s.size/\n<=k/\Hid (k+oy n ((bl s).drop k)=R)) (fun i _ _=>s.size-(intOf i).toNat)
 case atStart=>exact⟨p,0,rfl,rfl,rfl,Z,z0,J⟩
 case round=>
  obtain⟨k,n,rfl,rfl,rfl,hk,hn,D⟩:=hrel;by_cases F:k<s.size
  ·obtain⟨d,X⟩:∃ d:UInt8,s[k]=d:=⟨_,rfl⟩
   have H:=fH (aal s k n F d X);have d0:decide ((k:Int)<(s.size:Int))=true:=dT (by omega);cases h32:(d==32) with
   | true=>
    have U:((d.toNat:Int) != 32)=false:=by rw[bne,show((d.toNat:Int)==32)=true from(lm d 32).trans h32];rfl
    have E:Hid (k=R):=by have z:=D.out;rw[H.out,h32] at z;exact z
    go_wp2;go_ret;exact⟨fT (by rw[<-E.out]),rfl⟩
   | false=>
    have U:((d.toNat:Int) != 32)=true:=by rw[bne,show((d.toNat:Int)==32)=false from(lm d 32).trans h32];rfl
    cases h40:(d==40) with
    | true=>
     have M:((d.toNat:Int)==40)=true:=(lm d 40).trans h40;have I:Hid ((k+1)+oy (n+1) ((bl s).drop (k+1))=R):=by have z:=D.out;rw[H.out,h32,h40] at z;simp at z;show _=_;omega
     go_wp2;go_round
     case rel=>exact⟨k+1,n+1,by go_num,rfl,by go_num,by omega,by omega,I⟩
     case measure=>simp[intOf];omega
    | false=>
     have M:((d.toNat:Int)==40)=false:=(lm d 40).trans h40;cases h41:(d==41) with
     | true=>
      have O:((d.toNat:Int)==41)=true:=(lm d 41).trans h41;by_cases K:n=0
      ·have E:Hid (k=R):=by have z:=D.out;rw[H.out,h32,h40,h41,if_neg (by decide),if_neg (by decide),if_pos rfl,if_pos K] at z;exact z
       subst K;go_wp2;go_ret;exact⟨fT (by rw[<-E.out]),rfl⟩
      ·have I:Hid ((k+1)+oy (n-1) ((bl s).drop (k+1))=R):=by have z:=D.out;rw[H.out,h32,h40,h41,if_neg (by decide),if_neg (by decide),if_pos rfl,if_neg K] at z;show _=_;omega
       have en:((n:Int)==0)=false:=by simp;omega
       go_wp2;go_round
       case rel=>exact⟨k+1,n-1,by go_num,rfl,by congr 1;omega,by omega,by omega,I⟩
       case measure=>simp[intOf];omega
     | false=>
      have O:((d.toNat:Int)==41)=false:=(lm d 41).trans h41;have I:Hid ((k+1)+oy n ((bl s).drop (k+1))=R):=by have z:=D.out;rw[H.out,h32,h40,h41,if_neg (by decide),if_neg (by decide),if_neg (by decide)] at z;show _=_;omega
      go_wp2;go_round
      case rel=>exact⟨k+1,n,by go_num,rfl,rfl,by omega,by omega,I⟩
      case measure=>simp[intOf];omega
  ·have d0:decide ((k:Int)<(s.size:Int))=false:=dF (by omega);have E:Hid (k=R):=by have z:=D.out;rw[UK s k n F] at z;exact z
   go_wp2;go_ret;exact⟨fT (by rw[<-E.out]),rfl⟩
def lX:Nat->LU->List (LU)
 | 0,_=>[[]]
 | f+1,l=>if gm l=[] then [[]] else gJ l::lX f (gY l)
theorem mG (r:LU):gm (32::r)=gm r:=by unfold gm;rw[oX (by rfl)];rfl
theorem kh {c:UInt8}(h:(c==32)=false):gm (c::r)=c::r:=by
 unfold gm;rw[mO (show gT c=false from h)];rfl
theorem ML (f:Nat)(r:LU):lX f (32::r)=lX f r:=by
 cases f with
 | zero=>rfl
 | succ f=>unfold lX gJ gY;rw[mG]
theorem UL (f:Nat):lX (f+1) []=[[]]:=rfl
theorem MM (f:Nat)(s:BA)(k:Nat)(h:k<s.size)(d:UInt8)(F:s[k]=d)(z:(d==32)=false):lX (f+1) ((bl s).drop k)=((bl s).drop k).take (xJ ((bl s).drop k))::lX f ((bl s).drop (k+xJ ((bl s).drop k))):=by
 have D:gm ((bl s).drop k)=(bl s).drop k:=by rw[kL s k h,F];exact kh z
 show(if gm ((bl s).drop k)=[] then [[]] else gJ ((bl s).drop k)::lX f (gY ((bl s).drop k)))=_;rw[if_neg (by rw[D,kL s k h];simp)];unfold gJ gY;rw[D,List.drop_drop]
theorem aam (s:BA)(k:Nat)(h:k<s.size)(d:UInt8)(z:s[k]=d):xJ ((bl s).drop k)=if XK d then 1 else oy 0 ((bl s).drop k):=by
 rw[kL s k h,z];rfl
theorem UM (s:BA)(k:Nat)(h:k<s.size)(d:UInt8)(H:s[k]=d)(z:(d==32)=false):0<xJ ((bl s).drop k)/\k+xJ ((bl s).drop k)<=s.size:=by
 have F:gm ((bl s).drop k)=(bl s).drop k:=by rw[kL s k h,H];exact kh z
 have D:=DM (l:=(bl s).drop k) (by rw[F,kL s k h];simp);rw[F] at D;have I:=Kp ((bl s).drop k);rw[List.length_drop,fI] at I;exact⟨D,by omega⟩
structure IL where
 text:BA
 at_:Nat
def IL.cells (x:IL):LV:=[.string x.text,.int .i64 x.at_]
theorem aan (x:IL):x.cells.length=2:=rfl
theorem UN:(prog.info? 186).map (fun i=>(i.zero,i.size,i.bytes))=some (some (.agg #[.string ⟨#[]⟩,.int .i64 0]),2,24):=by kernel_rfl
structure IM (w wr:World) (xs:List IL) (A:OA) (n c:Nat):Prop where
 len:xs.length=n
 row:wr.ownsRow w.heap.size 186 2 (.slice A n c) n (xs.flatMap IL.cells)
 bel:Bw w wr
theorem IM.grow {xs:List IL}{c:Nat}{o:Obj}{x:IL}(h:IM w wr xs A n c)
  (F:w2.ownsRow w.heap.size 186 2 (.slice A1 (n+1) c1) (n+1) (xs.flatMap IL.cells++x.cells))
  (D:(wr.alloc o).grownBy w2 (Value.slice A n c).ownBlock):IM w w2 (xs++[x]) A1 (n+1) c1:=by
 refine⟨by simp[h.len],by rw[List.flatMap_append];simpa using F,?_⟩;exact(h.bel.alloc h.bel.size o).grown D (by have:=h.bel.size;simp;omega) (fun j z=>by have:=(h.row.lt j z).1;omega)
theorem tX (w:World)(t:TypeId)(x y:Value):nE (w.alloc (.cells #[x,y] t)) (w.heap.size+1) 2 (some ⟨w.heap.size,0,none⟩) 1 [x,y]:=by
 refine⟨rfl,fun _=>⟨_,rfl,by simp,fun j u z=>?_⟩⟩
 match j,z with
 | 0,z=>simp at z;subst z;simp[Addr.add]
 | 1,z=>simp at z;subst z;simp[Addr.add]
 | j+2,z=>simp at z
def aao (s:BA)(w:World)(e:Ending)(w':World):Prop:=
 ∃ (A:OA) (n c:Nat) (xs:List IL),e=.returned (.slice A n c)/\IM w w' xs A n c/\n<=s.size+1/\xs.map (fun x=>bl x.text)=lX (s.size+1) (bl s)/\∀ x∈xs,x.text.size<=s.size
theorem Qf (s:BA)(w:World)(hs:s.size<=4294967280):Calls prog 93 #[.string s] w (aao s w):=by
 obtain⟨i0,af,X,aa,ab⟩:=info_parts UN;go_in;go_wp2;go_loopw [3,4] (fun l i wr=>∃ (k f n c:Nat) (A:OA) (F:List IL),l=.slice A n c/\i=.int .i64 k/\k<=s.size/\n<=k/\Hid (IM w wr F A n c)/\Hid (F.map (fun x=>bl x.text)++lX (f+1) ((bl s).drop k)=lX (s.size+1) (bl s))/\Hid (s.size-k<=f)/\Hid (∀ x∈F,x.text.size<=s.size)) (fun _ i _=>s.size-(intOf i).toNat)
 case atStart=>exact⟨0,s.size,0,0,none,[],rfl,rfl,z0,lr,⟨rfl,World.ownsRow_nil _ _ _ _,bR⟩,rfl,lr,by simp[Hid]⟩
 case round=>
  obtain⟨k,f,n,c,A,F,rfl,rfl,hk,hn,M,HT,HF,HZ⟩:=hrel;by_cases z:k<s.size
  ·obtain⟨d,U⟩:∃ d:UInt8,s[k]=d:=⟨_,rfl⟩
   cases h32:(d==32) with
   | true=>
    have ai:((d.toNat:Int)==32)=true:=(lm d 32).trans h32;have I:Hid (F.map (fun x=>bl x.text)++lX (f+1) ((bl s).drop (k+1))=lX (s.size+1) (bl s)):=by
     have D:=HT.out;rw[kL s k z,U,show d=32 by simpa using h32,ML] at D;exact D
    have O:Hid (s.size-(k+1)<=f):=by have:=HF.out;show _<=_;omega
    go_wp2;go_roundw
    case rel=>exact⟨k+1,f,n,c,A,F,rfl,by go_num,by omega,by omega,M,I,O,HZ⟩
    case measure=>simp[intOf];omega
   | false=>
    have ai:((d.toNat:Int)==32)=false:=(lm d 32).trans h32;obtain⟨ap,Z⟩:=UM s k z d U h32;have TA:=fH (MM (f-1) s k z d U h32);have TB:=fH (MM f s k z d U h32);have LA:=fH (aam s k z d U);obtain⟨m,hm⟩:∃ m,k+xJ ((bl s).drop k)=m:=⟨_,rfl⟩
    have HM:=fH hm;rw[hm] at TA TB Z;have ao:k<m:=by omega
    obtain⟨V,al⟩:∃ V,((d.toNat:Int) != 40)=V:=⟨_,rfl⟩
    obtain⟨b2,ah⟩:∃ b2,((d.toNat:Int) != 41)=b2:=⟨_,rfl⟩
    have ae:Hid (XK d=!(V&&b2)):=by
     show _=_;rw[<-al,<-ah,bne,bne,show((d.toNat:Int)==40)=(d==40) from lm d 40,show((d.toNat:Int)==41)=(d==41) from lm d 41];unfold XK;simp
    obtain⟨R,aj⟩:∃ R,(V&&b2)=R:=⟨_,rfl⟩
    have J:=fH aj;go_upto_region 7 with(fail)
    go_cut [27] (fun v wx=>v=.bool R/\wr=wx)
    case first=>
     cases V with
     | false=>
      have E:Hid (R=false):=J.out.symm;go_wp2;go_meet;exact⟨by rw[E.out],rfl⟩
     | true=>
      have E:Hid (R=b2):=J.out.symm;go_wp2;go_meet;exact⟨by rw[E.out],rfl⟩
    case rest=>
    obtain⟨rfl,rfl⟩:=hcut;go_upto_if 27 with(fail)
    go_cut [5] (fun v wx=>v=.int .i64 m/\wr=wx)
    case first=>
     have ad:=Kr s k wr (by omega) hs;cases R with
     | false=>
      have E:Hid (m=k+1):=by have D:=HM.out;rw[LA.out,ae.out,J.out] at D;exact D.symm
      go_wp2;go_meet;exact⟨by rw[E.out];rfl,rfl⟩
     | true=>
      have E:k+oy 0 ((bl s).drop k)=m:=by have D:=HM.out;rw[LA.out,ae.out,J.out] at D;exact D
      rw[E] at ad;go_wp2_with fail;refine ad.mono ?_;rintro e w' ⟨rfl,rfl⟩;go_wp2;go_meet;exact⟨rfl,rfl⟩
    case rest=>
    obtain⟨rfl,rfl⟩:=hcut;obtain⟨Y,hY⟩:∃ Y,s.extract k m=Y:=⟨_,rfl⟩
    have ac:Hid (bl Y=((bl s).drop k).take (xJ ((bl s).drop k))):=by show _=_;rw[<-hY,sD];congr 1;have:=HM.out;omega
    have ag:Hid (Y.size<=s.size):=by show _<=_;rw[<-fI,ac.out,List.length_take,List.length_drop,fI];omega
    have I:Hid ((F++[(⟨Y,k⟩:IL)]).map (fun x=>bl x.text)++lX (f-1+1) ((bl s).drop m)=lX (s.size+1) (bl s)):=by
     have D:=HT.out;have hf:=HF.out;have ef:f-1+1=f:=by omega
     have h2:=TA.out;rw[ef] at h2;have h3:lX (f+1) ((bl s).drop k)=((bl s).drop k).take (xJ ((bl s).drop k))::lX f ((bl s).drop m):=TB.out;show _=_;rw[ef,<-D,h3,List.map_append,List.append_assoc];simp[ac.out]
    have O:Hid (s.size-m<=f-1):=by have:=HF.out;show _<=_;omega
    have K:Hid (∀ x∈F++[(⟨Y,k⟩:IL)],x.text.size<=s.size):=by
     intro x H;rcases List.mem_append.1 H with H | H
     ·exact HZ.out x H
     ·obtain rfl:=List.mem_singleton.1 H;exact ag.out
    have ak:n<=4294967280:=by omega
    have am:(k:Int)<=(m:Int):=by omega
    have an:(m:Int)<=(s.size:Int):=by omega
    go_wp2_with (at_builtin;refine fR _ rfl _ _ _ rfl w.heap.size 186 i0 _ 2 24 underlying180 af X aa ab rfl (by omega) (.slice A n c) n _ rfl (M.row.alloc _) (wr.heap.size+1) (some ⟨wr.heap.size,0,none⟩) 1 1 [.string Y,.int .i64 k] rfl (tX wr _ _ _) (by simp[Value.oneCell']) (by simp only[maxLen];omega) (by omega) (by simp;have:=M.bel.size;omega) ?_;intro v1 w3 o1 g1 a1);obtain⟨A3,c3,rfl⟩:=gg o1;have R3:=fH (M.grow (x:=⟨Y,k⟩) o1 g1);go_wp2;go_roundw
    case rel=>exact⟨m,f-1,n+1,c3,A3,F++[⟨Y,k⟩],rfl,rfl,Z,by omega,R3,I,O,K⟩
    case measure=>simp[intOf];omega
  ·have I:Hid ((F++[(⟨⟨#[]⟩,s.size⟩:IL)]).map (fun x=>bl x.text)=lX (s.size+1) (bl s)):=by
    have D:=HT.out;rw[rP s k z,UL] at D;show _=_;rw[<-D,List.map_append];rfl
   have K:Hid (∀ x∈F++[(⟨⟨#[]⟩,s.size⟩:IL)],x.text.size<=s.size):=by
    intro x H;rcases List.mem_append.1 H with H | H
    ·exact HZ.out x H
    ·obtain rfl:=List.mem_singleton.1 H;exact z0
   have ak:n<=4294967280:=by omega
   go_wp2_with (at_builtin;refine fR _ rfl _ _ _ rfl w.heap.size 186 i0 _ 2 24 underlying180 af X aa ab rfl (by omega) (.slice A n c) n _ rfl (M.row.alloc _) (wr.heap.size+1) (some ⟨wr.heap.size,0,none⟩) 1 1 [.string ⟨#[]⟩,.int .i64 s.size] rfl (tX wr _ _ _) (by simp[Value.oneCell']) (by simp only[maxLen];omega) (by omega) (by simp;have:=M.bel.size;omega) ?_;intro v1 w3 o1 g1 a1);obtain⟨A3,c3,rfl⟩:=gg o1;have R3:=fH (M.grow (x:=⟨⟨#[]⟩,s.size⟩) o1 g1);go_wp2;go_ret;exact⟨A3,n+1,c3,F++[⟨⟨#[]⟩,s.size⟩],rfl,R3.out,by omega,I.out,K.out⟩
end
section
open Go.RowKit
def io (op:LU)(n:Nat):Bool:=decide ((op=lh\/op=kT)/\2<=n\/(op=vn\/op=ir)/\(n=2\/n=3)\/(op=lJ\/op=iC)/\n=2)
def Sq (n:Nat)(op:LU):Prop:=(n=0/\op=[])\/(1<=n/\((op=lh\/op=kT)\/(op=vn\/op=ir)/\n<=2\/(op=lJ\/op=iC)/\n=1))
theorem Sq.start:Sq 0 []:=.inl ⟨rfl,rfl⟩
theorem qz :mF p=true↔p=lh\/p=kT\/p=vn\/p=ir\/p=lJ\/p=iC:=by unfold mF;simp
theorem Sq.close (h:Sq n op):io op (n+1)=decide (n≠0):=by
 unfold io;rcases h with⟨rfl,rfl⟩ | ⟨F,z⟩
 ·simp[lh,kT,vn,ir,lJ,iC]
 ·rw[dT (show n≠0 by omega)];apply dT;rcases z with z | ⟨z,D⟩ | ⟨z,D⟩
  ·exact .inl ⟨z,by omega⟩
  ·exact .inr (.inl ⟨z,by omega⟩)
  ·exact .inr (.inr ⟨z,by omega⟩)
theorem Sq.next (h:Sq n op)(z:gx op (n+1) p=true):Sq (n+1) (if n=0 then p else op):=by
 unfold gx at z;rcases h with⟨rfl,rfl⟩ | ⟨D,H⟩
 ·rw[if_pos rfl] at z;rw[if_pos rfl];refine .inr ⟨by omega,?_⟩;rcases qz.1 z with h | h | h | h | h | h
  ·exact .inl (.inl h)
  ·exact .inl (.inr h)
  ·exact .inr (.inl ⟨.inl h,by omega⟩)
  ·exact .inr (.inl ⟨.inr h,by omega⟩)
  ·exact .inr (.inr ⟨.inl h,rfl⟩)
  ·exact .inr (.inr ⟨.inr h,rfl⟩)
 ·rw[if_neg (by omega)] at z;rw[if_neg (by omega)];refine .inr ⟨by omega,?_⟩;rcases dO z with⟨h,_⟩ | ⟨h,F,_⟩
  ·exact .inl h
  ·exact .inr (.inl ⟨h,by omega⟩)
theorem Sq.word (h:Sq n op)(D:n≠0):mF op=true:=by
 rcases h with⟨rfl,rfl⟩ | ⟨_,z⟩
 ·exact absurd rfl D
 ·rw[qz];rcases z with(z | z) | ⟨z | z,_⟩ | ⟨z | z,_⟩
  ·exact .inl z
  ·exact .inr (.inl z)
  ·exact .inr (.inr (.inl z))
  ·exact .inr (.inr (.inr (.inl z)))
  ·exact .inr (.inr (.inr (.inr (.inl z))))
  ·exact .inr (.inr (.inr (.inr (.inr z))))
theorem Sq.nil (h:Sq n op):op=[]↔n=0:=by
 constructor
 ·intro e;subst e;by_cases z:n=0
  ·exact z
  ·have:=h.word z;rw[qz] at this;revert this;simp[lh,kT,vn,ir,lJ,iC]
 ·rintro rfl;rcases h with⟨_,h⟩ | ⟨h,_⟩
  ·exact h
  ·omega
theorem sP (h:io op n=true):2<=n:=by
 rcases dO h with⟨_,h⟩ | ⟨_,h⟩ | ⟨_,h⟩<;>omega
theorem sQ (h:mF op=true):op≠[]/\op.length<=7:=by
 rcases qz.1 h with h | h | h | h | h | h<;>rw[h]<;>simp[lh,kT,vn,ir,lJ,iC]
inductive jR:fL->Prop
 | atom (nm:BA) (aop:Nat) (ver:BA) (hn:kA (bl nm)=true) (ho:aop<=5) (hv0:aop=0->ver.size=0) (hv:0<aop->gL 2 ver=0):jR (.mk ⟨#[]⟩ nm aop ver none 0 [])
 | node (op:BA) (ka:OA) (kc:Nat) (kids:List fL) (ho:mF (bl op)=true) (hc:io (bl op) kids.length=true) (hk:∀ k∈kids,jR k):jR (.mk op ⟨#[]⟩ 0 ⟨#[]⟩ ka kc kids)
theorem DT {s:BA}{f:Int}(h:gL f s=0):s.size<=64:=by
 unfold gL at h;split at h
 ·simp at h
 ·split at h
  ·simp at h
  ·omega
theorem rV {s:BA}(h:kA (bl s)=true):1<=s.size/\s.size<=64:=by
 by_cases z:1<=s.size/\s.size<=64
 ·exact z
 ·rw[wl s z] at h;cases h
theorem Sr:∀ n:Nat,(XM n).length<=2
 | 0=>by decide
 | 1=>by decide
 | 2=>by decide
 | 3=>by decide
 | 4=>by decide
 | 5=>by decide
 | _+6=>by simp[XM]
theorem Ss {i:Nat}(h:op.length<=7):(XN op i).length<=7:=by
 unfold XN;split
 ·decide
 ·exact h
theorem ze (op:LU)(D:op.length<=7):∀ (z:List fL)(i:Nat),(∀ k∈z,(ij k.pl).length+60<=200*k.cnt)->(jM op i (tG z)).length+51*z.length<=200*jG z
 | [],i,_=>by simp[tG,jM,jG]
 | k::r,i,h=>by
  have I:=h k (by simp);have H:=ze op D r (i+1) (fun x F=>h x (by simp[F]));have J:=Ss (i:=i) D;simp only[tG,jM,jG,List.length_append,List.length_cons];split
  ·simp;omega
  ·simp;omega
theorem Cm (op nm:BA)(aop:Nat)(ver:BA)(ka:OA)(kc:Nat)(kids:List fL)(h:bl op=[]):(fL.mk op nm aop ver ka kc kids).pl=.atom (bl nm) aop (bl ver):=by simp[fL.pl,h]
theorem Cn (op nm:BA)(aop:Nat)(ver:BA)(ka:OA)(kc:Nat)(kids:List fL)(h:bl op≠[]):(fL.mk op nm aop ver ka kc kids).pl=.node (bl op) (tG kids):=by simp[fL.pl,h]
theorem jR.text {t:fL}(h:jR t):(ij t.pl).length+60<=200*t.cnt:=by
 induction h with
 | atom nm aop ver hn ho hv0 hv=>
  rw[Cm _ _ _ _ _ _ _ rfl];have D:=rV hn;have z:ver.size<=64:=by
   by_cases h:aop=0
   ·have:=hv0 h;omega
   ·exact DT (hv (by omega))
  have F:=Sr aop;simp only[ij,fL.cnt];split
  ·rw[fI];omega
  ·simp[fI];omega
 | node op ka kc kids ho hc hk ih=>
  rw[Cn _ _ _ _ _ _ _ (sQ ho).1];have D:=ze (bl op) (sQ ho).2 kids 0 ih;have z:=sP hc;rw[lW (t:=.mk op ⟨#[]⟩ 0 ⟨#[]⟩ ka kc kids) (by simp[fL.kids];intro h;rw[h] at z;simp at z)];simp only[ij,fL.kids,List.length_append,List.length_cons,List.length_nil];omega
theorem jR.kid {t k:fL}(h:jR t)(z:k∈t.kids):jR k:=by
 cases h with
 | atom=>simp[fL.kids] at z
 | node op ka kc kids ho hc hg=>exact hg k z
def rW:fL:=.mk ⟨#[]⟩ ⟨#[]⟩ 0 ⟨#[]⟩ none 0 []
theorem XP (l:LU):(gY l).length<=l.length:=by
 have:=ls l;unfold gY;rw[List.length_drop];omega
theorem qA (h:gJ l≠[]):(gY l).length<l.length:=XL (fun e=>h (zd.2 e))
theorem wu (f:Nat)(l:LU):∃ r,lX (f+1) l=gJ l::r/\(gJ l≠[]->r=lX f (gY l)):=by
 by_cases h:gm l=[]
 ·refine⟨[],?_,fun z=>absurd (zd.2 h) z⟩;show(if gm l=[] then [[]] else gJ l::lX f (gY l))=_;rw[if_pos h,zd.2 h]
 ·refine⟨lX f (gY l),?_,fun _=>rfl⟩;show(if gm l=[] then [[]] else gJ l::lX f (gY l))=_;rw[if_neg h]
end
section
open Go.RowKit Go.Deep
def fL.sl (t:fL):Value:=.slice t.ka t.kids.length t.kc
inductive lO:fL->Prop
 | mk (t:fL) (leaf:t.kids=[]->t.op.size=0) (node:t.kids≠[]->t.op.size≠0) (kids:∀ k∈t.kids,lO k):lO t
theorem lO.leaf {t:fL}(h:lO t):t.kids=[]->t.op.size=0:=by cases h;assumption
theorem lO.node {t:fL}(h:lO t):t.kids≠[]->t.op.size≠0:=by cases h;assumption
theorem lO.kids {t:fL}(h:lO t):∀ k∈t.kids,lO k:=by cases h;assumption
theorem jR.shape {t:fL}(h:jR t):lO t:=by
 induction h with
 | atom nm aop ver _ _ _ _=>exact .mk _ (fun _=>rfl) (fun h=>absurd rfl h) (by simp[fL.kids])
 | node op ka kc kids ho hc hk ih=>
  refine .mk _ (fun e=>?_) (fun _ e=>?_) ih
  ·have z:=sP hc;simp only[fL.kids] at e;rw[e] at z;simp at z
  ·simp only[fL.op] at e;exact(sQ ho).1 (hZ op e)
theorem lO.zero:lO rW:=.mk _ (fun _=>rfl) (fun h=>absurd rfl h) (by simp[rW,fL.kids])
def Hf (w:World)(row:Option Nat):Prop:=∀ g cs fr,row=some g->w.heap[g]?≠some (.cells cs 86 fr)
theorem Hf.map {ms:List (fL×Nat)}(h:mv w b ms):Hf w (some b):=by
 intro g H J e D;injection e with e;subst e;obtain⟨I,z,F,_⟩:=h.ex;rw[F] at D;simp at D
theorem Hf.row (h:w.ownsRow lo 84 1 v n xs):Hf w v.ownBlock:=by
 intro g I K e z;rcases h.2 with⟨D,_⟩ | ⟨J,cap,F,D,_,H,_⟩
 ·rw[D] at e;simp[Value.ownBlock] at e
 ·rw[D] at e;simp[Value.ownBlock] at e;subst e;rw[H] at z;injection z with z;injection z with _ z _;exact absurd z (by decide)
theorem iD.tame {row:Option Nat}{t:fL}(h:iD w lo none t)(ht:Hf w row)(H:w.grownBy w' row):iD w' lo none t:=by
 induction h with
 | mk t r ne _ ih=>
  refine .mk t (r.kept H ?_) (fun g _=>by simp) ih;rcases r.2 with⟨z,_⟩ | ⟨I,cap,F,z,_,D,_⟩
  ·left;rw[z];rfl
  ·right;rw[z];intro e;exact ht I _ _ e.symm D
theorem mv.tame {row:Option Nat}{ms:List (fL×Nat)}(h:mv w b ms)(ht:Hf w row)(D:some b≠row)(H:w.grownBy w' row):mv w' b ms:=by
 obtain⟨K,z,J,I⟩:=h.ex;exact⟨⟨K,z,(H.block b h.lt D).trans J,I⟩,fun p F=>⟨(h.own p F).1.tame ht H,(h.own p F).2⟩⟩
theorem mv.ne_row {size:Nat}{e:TypeId}{ms:List (fL×Nat)}(h:mv w b ms)(r:w.ownsRow lo e size v n xs):some b≠v.ownBlock:=by
 intro z;obtain⟨M,F,J,K⟩:=h.ex;rcases r.2 with⟨D,_⟩ | ⟨O,cap,I,D,_,H,_⟩
 ·rw[D] at z;simp[Value.ownBlock] at z
 ·rw[D] at z;simp[Value.ownBlock] at z;subst z;rw[J] at H;simp at H
structure St (lo:Nat) (wr:World) (A:OA) (n c:Nat) (xs:List fL):Prop where
 len:xs.length=n
 row:wr.ownsRow lo 84 1 (.slice A n c) n (xs.map fL.sl)
 own:∀ x∈xs,iD wr 0 none x
 ne:∀ x∈xs,x.kids≠[]
 shape:∀ x∈xs,∀ k∈x.kids,lO k
theorem St.nil (lo:Nat)(wr:World):St lo wr none 0 0 []:=⟨rfl,World.ownsRow_nil _ _ _ _,by simp,by simp,by simp⟩
theorem St.tame {c:Nat}{xs:List fL}{row:Option Nat}(h:St lo wr A n c xs)(ht:Hf wr row)(z:(Value.slice A n c).ownBlock=none\/(Value.slice A n c).ownBlock≠row)(D:wr.grownBy w' row):St lo w' A n c xs:=
 ⟨h.len,h.row.kept D z,fun x F=>(h.own x F).tame ht D,h.ne,h.shape⟩
theorem St.below {c:Nat}{xs:List fL}(h:St lo wr A n c xs)(z:Bw wr w'):St lo w' A n c xs:=
 ⟨h.len,ge h.row z,fun x D=>(h.own x D).low z,h.ne,h.shape⟩
theorem St.map {c:Nat}{xs:List fL}{ms:List (fL×Nat)}(h:St lo wr A n c xs)(z:mv wr b ms)(D:wr.grownBy w' (some b)):St lo w' A n c xs:=
 h.tame (.map z) (.inr (z.ne_row h.row).symm) D
def qB (L ys:List fL)(ms:List (fL×Nat)):Prop:=∀ t∈L,t.kids≠[]->(∃ y∈ys,y.kids=t.kids)/\∃ q∈ms,q.1.kids=t.kids
theorem qB.nil (D:List fL)(z:List (fL×Nat)):qB [] D z:=by intro t ht;simp at ht
theorem qB.leaf {L ys:List fL}{ms:List (fL×Nat)}{t:fL}(h:qB L ys ms)(ht:t.kids=[]):qB (L++[t]) ys ms:=by
 intro x z D;rcases List.mem_append.1 z with z | z
 ·exact h x z D
 ·obtain rfl:=List.mem_singleton.1 z;exact absurd ht D
structure Qg (s0:Nat) (wr:World) (mb hb h k:Nat) (A:OA) (n c:Nat) (xs:List fL) (B:OA) (m cB:Nat) (ys:List fL) (ms hs:List (fL×Nat)):Prop where
 lev:St 0 wr A n c xs
 old:∀ g,(Value.slice A n c).ownBlock=some g->g<s0
 new:St s0 wr B m cB ys
 met:mv wr mb ms
 here:mv wr hb hs
 hne:mb≠hb
 xh:∀ x∈xs,x.ht+k<=h+1
 yh:∀ y∈ys,y.ht+k<=h
 hsy:∀ p∈hs,(∃ y∈ys,y.kids=p.1.kids)/\∃ q∈ms,q.1.kids=p.1.kids
 mok:∀ i,i<k->∃ p∈ms,p.1.ht+i=h
 top:∃ x∈xs,x.ht+k=h+1
theorem Qg.below {c:Nat}{xs:List fL}{ys:List fL}{ms hs:List (fL×Nat)}(d:Qg s0 wr mb hb h k A n c xs B m cB ys ms hs)(b:Bw wr w'):Qg s0 w' mb hb h k A n c xs B m cB ys ms hs:=
 ⟨d.lev.below b,d.old,d.new.below b,d.met.below b,d.here.below b,d.hne,d.xh,d.yh,d.hsy,d.mok,d.top⟩
theorem Qg.hit {c:Nat}{xs:List fL}{ys:List fL}{ms hs:List (fL×Nat)}(d:Qg s0 wr mb hb h k A n c xs B m cB ys ms hs){L:List fL}(H:qB L ys ms){t:fL}{p:fL×Nat}(D:p∈hs)(e:p.1.kids=t.kids):qB (L++[t]) ys ms:=by
 intro x z F;rcases List.mem_append.1 z with z | z
 ·exact H x z F
 ·obtain rfl:=List.mem_singleton.1 z;rw[<-e];exact d.hsy p D
theorem Qg.grow {w1 w3:World}{v:Nat}{c:Nat}{xs:List fL}{B1:OA}{ys:List fL}{ms hs ms' hs':List (fL×Nat)}{t:fL}
  (d:Qg s0 wr mb hb h k A n c xs B m cB ys ms hs)(ht:iD wr 0 none t)(tk:t.kids≠[])(aa:∀ x∈t.kids,lO x)(ab:t.ht+k<=h)
  (k1:mv w1 hb hs')(R:wr.grownBy w1 (some hb))(f1:∀ p∈hs',(∃ q∈hs,q=p)\/p.1.kids=t.kids/\p.2=v)
  (k2:mv w2 mb ms')(O:w1.grownBy w2 (some mb))(f2:∀ p∈ms,∃ q∈ms',q.1=p.1)(f3:∃ q∈ms',q.1.kids=t.kids)
  (b:Bw w2 wb)(o:w3.ownsRow s0 84 1 (.slice B1 (m+1) c1) (m+1) (ys.map fL.sl++[t.sl]))(M:wb.grownBy w3 (Value.slice B m cB).ownBlock):
  Qg s0 w3 mb hb h k A n c xs B1 (m+1) c1 (ys++[t]) ms' hs':=by
 have U:mv w1 mb ms:=d.met.tame (.map d.here) (fun e=>d.hne (by injection e)) R;have t1:=ht.tame (.map d.here) R;have l1:=d.lev.map d.here R;have n1:=d.new.map d.here R;have t2:=t1.tame (.map U) O;have l2:=l1.map U O;have n2:=n1.map U O;have h2:mv w2 hb hs':=k1.tame (.map U) (fun e=>d.hne (by injection e with e;exact e.symm)) O;have tb:=t2.low b;have lb:=l2.below b;have D:=n2.below b;have J:=h2.below b;have K:=k2.below b;have I:Hf wb (Value.slice B m cB).ownBlock:=.row D.row;refine⟨lb.tame I ?_ M,d.old,⟨by simp[D.len],by simpa using o,fun x z=>?_,fun x z=>?_,fun x z=>?_⟩,K.tame I (K.ne_row D.row) M,J.tame I (J.ne_row D.row) M,d.hne,d.xh,fun y F=>?_,fun p hp=>?_,fun i hi=>?_,d.top⟩
 ·cases e:(Value.slice A n c).ownBlock with
  | none=>exact .inl rfl
  | some g=>
   right;intro Z;have:=d.old g e;have:=(D.row.lt g Z.symm).1;omega
 ·rcases List.mem_append.1 z with z | z
  ·exact(D.own x z).tame I M
  ·obtain rfl:=List.mem_singleton.1 z;exact tb.tame I M
 ·rcases List.mem_append.1 z with z | z
  ·exact D.ne x z
  ·obtain rfl:=List.mem_singleton.1 z;exact tk
 ·rcases List.mem_append.1 z with z | z
  ·exact D.shape x z
  ·obtain rfl:=List.mem_singleton.1 z;exact aa
 ·rcases List.mem_append.1 F with F | F
  ·exact d.yh y F
  ·obtain rfl:=List.mem_singleton.1 F;exact ab
 ·rcases f1 p hp with⟨q,V,rfl⟩ | ⟨e,_⟩
  ·obtain⟨⟨y,F,ey⟩,q2,ac,Y⟩:=d.hsy q V;obtain⟨X,H,e3⟩:=f2 q2 ac;exact⟨⟨y,by simp[F],ey⟩,X,H,by rw[e3,Y]⟩
  ·obtain⟨X,H,e3⟩:=f3;exact⟨⟨t,by simp,e.symm⟩,X,H,by rw[e3,e]⟩
 ·obtain⟨p,hp,e⟩:=d.mok i hi;obtain⟨q,V,Z⟩:=f2 p hp;exact⟨q,V,by rw[Z];exact e⟩
theorem qB.grow {L ys:List fL}{ms ms':List (fL×Nat)}{t:fL}(h:qB L ys ms)(F:∀ p∈ms,∃ q∈ms',q.1=p.1)(M:∃ q∈ms',q.1.kids=t.kids):qB (L++[t]) (ys++[t]) ms':=by
 intro x z H;rcases List.mem_append.1 z with z | z
 ·obtain⟨⟨y,K,O⟩,q,I,R⟩:=h x z H;obtain⟨U,D,J⟩:=F q I;exact⟨⟨y,by simp[K],O⟩,U,D,by rw[J,R]⟩
 ·obtain rfl:=List.mem_singleton.1 z;exact⟨⟨x,by simp,rfl⟩,M⟩
theorem DV {a b:fL}(h:a.kids=b.kids):a.ht=b.ht:=by rw[DP,DP,h]
theorem Qg.next {c:Nat}{xs:List fL}{ys:List fL}{ms hs:List (fL×Nat)}(d:Qg s0 wr mb hb h k A n c xs B m cB ys ms hs)(hs:qB (xs.flatMap fL.kids) ys ms)(hm:0<m):
  k<ms.length/\k+1<=h/\(∀ i,i<k+1->∃ p∈ms,p.1.ht+i=h)/\∃ y∈ys,y.ht+(k+1)=h+1:=by
 obtain⟨y,F⟩:∃ y,y∈ys:=by
  have:=d.new.len;cases ys with
  | nil=>simp at this;omega
  | cons a r=>exact⟨a,by simp⟩
 have Y:=d.yh y F;have y2:y.ht≠0:=fun e=>d.new.ne y F (Cl.1 e);obtain⟨x,H,Z⟩:=d.top;obtain⟨t,ht,U⟩:=Kq (d.lev.ne x H);rw[<-DP] at U;have I:t.kids≠[]:=fun e=>by have:=Cl.2 e;omega
 obtain⟨⟨z,O,V⟩,q,J,M⟩:=hs t (List.mem_flatMap.2 ⟨x,H,ht⟩) I;have K:=DV V;have X:=DV M;have mk:∀ i,i<k+1->∃ p∈ms,p.1.ht+i=h:=by
  intro i D;rcases(by omega:i<k\/i=k) with D | rfl
  ·exact d.mok i D
  ·exact⟨q,J,by omega⟩
 refine⟨?_,by omega,mk,z,O,by omega⟩;refine AC (fun t=>h-t.ht) (k+1) ms (fun i D=>?_);obtain⟨p,R,e⟩:=mk i D;exact⟨p,R,by show h-p.1.ht=i;omega⟩
theorem Ql (n:Nat):io lh n=decide (2<=n):=by simp[io,lh,kT,vn,ir,lJ,iC]
theorem UW (n:Nat):io kT n=decide (2<=n):=by simp[io,lh,kT,vn,ir,lJ,iC]
theorem UX (n:Nat):io vn n=(decide (n=2)||decide (n=3)):=by simp[io,lh,kT,vn,ir,lJ,iC]
theorem Hi (n:Nat):io ir n=(decide (n=2)||decide (n=3)):=by simp[io,lh,kT,vn,ir,lJ,iC]
theorem MO (n:Nat):io lJ n=decide (n=2):=by simp[io,lh,kT,vn,ir,lJ,iC]
theorem Eb (n:Nat):io iC n=decide (n=2):=by simp[io,lh,kT,vn,ir,lJ,iC]
theorem MP (h:mF op=false)(n:Nat):io op n=false:=by
 unfold io;apply dF;have z:=of_decide_eq_false h;rintro(⟨h2 | h2,_⟩ | ⟨h2 | h2,_⟩ | ⟨h2 | h2,_⟩)<;>exact z (by simp[h2])
theorem Ec (op:LU):op=lh\/op=kT\/op=vn\/op=ir\/op=lJ\/op=iC\/mF op=false:=by
 cases h:mF op with
 | false=>simp
 | true=>rcases qz.1 h with h | h | h | h | h | h<;>simp[h]
theorem MQ {s:BA}(h:mF (bl s)=false):(s.toList == [97,110,100])=false/\(s.toList == [111,114])=false/\(s.toList == [105,102])=false/\(s.toList == [117,110,108,101,115,115])=false/\(s.toList == [119,105,116,104])=false/\(s.toList == [119,105,116,104,111,117,116])=false:=by
 rw[fK];have z:=of_decide_eq_false h;refine⟨?_,?_,?_,?_,?_,?_⟩<;>rw[bF]<;>intro e<;>apply z<;>rw[e]<;>simp[lh,kT,vn,ir,lJ,iC]
theorem BE (op:BA)(n:Nat)(w:World)(h:bl op=lh):Calls prog 199 #[.string op,.int .i64 n] w fun e w'=>e=.returned (.bool (io (bl op) n))/\w=w':=by
 have E:op.toList=[97,110,100]:=by rw[fK];exact h
 have R:Hid (io (bl op) n=decide (2<=n)):=by show _=_;rw[h];exact Ql n
 clear h;go_in;go_wp2;go_ret;exact⟨fJ (by rw[R.out,bI];simp;omega),rfl⟩
theorem Ed (op:BA)(n:Nat)(w:World)(h:bl op=kT):Calls prog 199 #[.string op,.int .i64 n] w fun e w'=>e=.returned (.bool (io (bl op) n))/\w=w':=by
 have E:op.toList=[111,114]:=by rw[fK];exact h
 have R:Hid (io (bl op) n=decide (2<=n)):=by show _=_;rw[h];exact UW n
 clear h;go_in;go_wp2;go_ret;exact⟨fJ (by rw[R.out,bI];simp;omega),rfl⟩
theorem Ee (op:BA)(n:Nat)(w:World)(h:bl op=vn):Calls prog 199 #[.string op,.int .i64 n] w fun e w'=>e=.returned (.bool (io (bl op) n))/\w=w':=by
 have E:op.toList=[105,102]:=by rw[fK];exact h
 have R:Hid (io (bl op) n=(decide (n=2)||decide (n=3))):=by show _=_;rw[h];exact UX n
 clear h;by_cases z:n=2
 ·subst z;go_in;go_wp2;go_ret;exact⟨fJ (by rw[R.out];rfl),rfl⟩
 ·have H:((n:Int)==2)=false:=by simp;omega
  by_cases D:n=3
  ·subst D;go_in;go_wp2;go_ret;exact⟨fJ (by rw[R.out];rfl),rfl⟩
  ·have F:((n:Int)==3)=false:=by simp;omega
   go_in;go_wp2;go_ret;exact⟨fJ (by rw[R.out];simp[z,D]),rfl⟩
theorem wv (op:BA)(n:Nat)(w:World)(h:bl op=ir):Calls prog 199 #[.string op,.int .i64 n] w fun e w'=>e=.returned (.bool (io (bl op) n))/\w=w':=by
 have E:op.toList=[117,110,108,101,115,115]:=by rw[fK];exact h
 have R:Hid (io (bl op) n=(decide (n=2)||decide (n=3))):=by show _=_;rw[h];exact Hi n
 clear h;by_cases z:n=2
 ·subst z;go_in;go_wp2;go_ret;exact⟨fJ (by rw[R.out];rfl),rfl⟩
 ·have H:((n:Int)==2)=false:=by simp;omega
  by_cases D:n=3
  ·subst D;go_in;go_wp2;go_ret;exact⟨fJ (by rw[R.out];rfl),rfl⟩
  ·have F:((n:Int)==3)=false:=by simp;omega
   go_in;go_wp2;go_ret;exact⟨fJ (by rw[R.out];simp[z,D]),rfl⟩
theorem zf (op:BA)(n:Nat)(w:World)(h:bl op=lJ):Calls prog 199 #[.string op,.int .i64 n] w fun e w'=>e=.returned (.bool (io (bl op) n))/\w=w':=by
 have E:op.toList=[119,105,116,104]:=by rw[fK];exact h
 have R:Hid (io (bl op) n=decide (n=2)):=by show _=_;rw[h];exact MO n
 clear h;go_in;go_wp2;go_ret;exact⟨fJ (by rw[R.out];rw[bI];simp;omega),rfl⟩
theorem vo (op:BA)(n:Nat)(w:World)(h:bl op=iC):Calls prog 199 #[.string op,.int .i64 n] w fun e w'=>e=.returned (.bool (io (bl op) n))/\w=w':=by
 have E:op.toList=[119,105,116,104,111,117,116]:=by rw[fK];exact h
 have R:Hid (io (bl op) n=decide (n=2)):=by show _=_;rw[h];exact Eb n
 clear h;go_in;go_wp2;go_ret;exact⟨fJ (by rw[R.out];rw[bI];simp;omega),rfl⟩
theorem AD (op:BA)(n:Nat)(w:World):Calls prog 199 #[.string op,.int .i64 n] w fun e w'=>e=.returned (.bool (io (bl op) n))/\w=w':=by
 rcases Ec (bl op) with h | h | h | h | h | h | h
 ·exact BE op n w h
 ·exact Ed op n w h
 ·exact Ee op n w h
 ·exact wv op n w h
 ·exact zf op n w h
 ·exact vo op n w h
 ·obtain⟨H,D,J,F,I,z⟩:=MQ h;have R:Hid (io (bl op) n=false):=MP h n;clear h;go_in;go_wp2;go_ret;exact⟨fJ R.out.symm,rfl⟩
theorem MR (D:n≠1)(p:LU):gx lh n p=decide (p=lh):=by
 unfold gx;rw[if_neg D];by_cases z:p=lh
 ·subst z;simp[lh,kT,vn,ir,lJ,iC]
 ·rw[dF z];apply dF;rintro(⟨_,h⟩ | ⟨h,_⟩)
  ·exact z h
  ·revert h;simp[lh,kT,vn,ir]
theorem Qm (D:n≠1)(p:LU):gx kT n p=decide (p=kT):=by
 unfold gx;rw[if_neg D];by_cases z:p=kT
 ·subst z;simp[lh,kT,vn,ir,lJ,iC]
 ·rw[dF z];apply dF;rintro(⟨_,h⟩ | ⟨h,_⟩)
  ·exact z h
  ·revert h;simp[lh,kT,vn,ir]
theorem Qn (z:n≠1)(p:LU):gx vn n p=(decide (n=2)&&decide (p=AA)):=by
 unfold gx;rw[if_neg z];simp[lh,kT,vn,ir,lJ,iC]
theorem Ef (z:n≠1)(p:LU):gx ir n p=(decide (n=2)&&decide (p=AA)):=by
 unfold gx;rw[if_neg z];simp[lh,kT,vn,ir,lJ,iC]
theorem Ks (z:n≠1)(p:LU):gx lJ n p=false:=by
 unfold gx;rw[if_neg z];simp[lh,kT,vn,ir,lJ,iC]
theorem BF (z:n≠1)(p:LU):gx iC n p=false:=by
 unfold gx;rw[if_neg z];simp[lh,kT,vn,ir,lJ,iC]
theorem Kt (h:mF op=false)(D:n≠1)(p:LU):gx op n p=false:=by
 unfold gx;rw[if_neg D];apply dF;have z:=of_decide_eq_false h;rintro(⟨h2 | h2,_⟩ | ⟨h2 | h2,_⟩)<;>exact z (by simp[h2])
theorem zh (op:BA)(n:Nat)(p:BA)(w:World)(h:bl op=lh)(D:n≠1):Calls prog 200 #[.string op,.int .i64 n,.string p] w fun e w'=>e=.returned (.bool (gx (bl op) n (bl p)))/\w=w':=by
 have E:op.toList=[97,110,100]:=by rw[fK];exact h
 have R:Hid (gx (bl op) n (bl p)=decide (bl p=lh)):=by show _=_;rw[h];exact MR D _
 have H:((n:Int)==1)=false:=by simp;omega
 clear h;cases hp:(p.toList==([97,110,100]:LU)) with
 | true=>
  have F:p.toList=[97,110,100]:=by simpa using hp
  have z:Hid (gx (bl op) n (bl p)=true):=by show _=_;rw[R.out,<-fK,F];rfl
  clear hp;go_in;go_wp2;go_ret;exact⟨fJ z.out.symm,rfl⟩
 | false=>
  have z:Hid (gx (bl op) n (bl p)=false):=by show _=_;rw[R.out,<-fK];exact dF (by rw[bF] at hp;exact hp)
  go_in;go_wp2;go_ret;exact⟨fJ z.out.symm,rfl⟩
theorem BG (op:BA)(n:Nat)(p:BA)(w:World)(h:bl op=kT)(D:n≠1):Calls prog 200 #[.string op,.int .i64 n,.string p] w fun e w'=>e=.returned (.bool (gx (bl op) n (bl p)))/\w=w':=by
 have E:op.toList=[111,114]:=by rw[fK];exact h
 have R:Hid (gx (bl op) n (bl p)=decide (bl p=kT)):=by show _=_;rw[h];exact Qm D _
 have H:((n:Int)==1)=false:=by simp;omega
 clear h;cases hp:(p.toList==([111,114]:LU)) with
 | true=>
  have F:p.toList=[111,114]:=by simpa using hp
  have z:Hid (gx (bl op) n (bl p)=true):=by show _=_;rw[R.out,<-fK,F];rfl
  clear hp;go_in;go_wp2;go_ret;exact⟨fJ z.out.symm,rfl⟩
 | false=>
  have z:Hid (gx (bl op) n (bl p)=false):=by show _=_;rw[R.out,<-fK];exact dF (by rw[bF] at hp;exact hp)
  go_in;go_wp2;go_ret;exact⟨fJ z.out.symm,rfl⟩
theorem BH (op:BA)(n:Nat)(p:BA)(w:World)(h:bl op=vn)(H:n≠1):Calls prog 200 #[.string op,.int .i64 n,.string p] w fun e w'=>e=.returned (.bool (gx (bl op) n (bl p)))/\w=w':=by
 have E:op.toList=[105,102]:=by rw[fK];exact h
 have R:Hid (gx (bl op) n (bl p)=(decide (n=2)&&decide (bl p=AA))):=by show _=_;rw[h];exact Qn H _
 have I:((n:Int)==1)=false:=by simp;omega
 clear h;by_cases D:n=2
 ·subst D;cases hp:(p.toList==([101,108,115,101]:LU)) with
  | true=>
   have F:p.toList=[101,108,115,101]:=by simpa using hp
   have z:Hid (gx (bl op) 2 (bl p)=true):=by show _=_;rw[R.out,<-fK,F];rfl
   clear hp;go_in;go_wp2;go_ret;exact⟨fJ z.out.symm,rfl⟩
  | false=>
   have z:Hid (gx (bl op) 2 (bl p)=false):=by show _=_;rw[R.out,<-fK];simp only[decide_true,Bool.true_and];exact dF (by rw[bF] at hp;exact hp)
   go_in;go_wp2;go_ret;exact⟨fJ z.out.symm,rfl⟩
 ·have J:((n:Int)==2)=false:=by simp;omega
  have z:Hid (gx (bl op) n (bl p)=false):=by show _=_;rw[R.out,dF D];rfl
  go_in;go_wp2;go_ret;exact⟨fJ z.out.symm,rfl⟩
theorem vp (op:BA)(n:Nat)(p:BA)(w:World)(h:bl op=ir)(H:n≠1):Calls prog 200 #[.string op,.int .i64 n,.string p] w fun e w'=>e=.returned (.bool (gx (bl op) n (bl p)))/\w=w':=by
 have E:op.toList=[117,110,108,101,115,115]:=by rw[fK];exact h
 have R:Hid (gx (bl op) n (bl p)=(decide (n=2)&&decide (bl p=AA))):=by show _=_;rw[h];exact Ef H _
 have I:((n:Int)==1)=false:=by simp;omega
 clear h;by_cases D:n=2
 ·subst D;cases hp:(p.toList==([101,108,115,101]:LU)) with
  | true=>
   have F:p.toList=[101,108,115,101]:=by simpa using hp
   have z:Hid (gx (bl op) 2 (bl p)=true):=by show _=_;rw[R.out,<-fK,F];rfl
   clear hp;go_in;go_wp2;go_ret;exact⟨fJ z.out.symm,rfl⟩
  | false=>
   have z:Hid (gx (bl op) 2 (bl p)=false):=by show _=_;rw[R.out,<-fK];simp only[decide_true,Bool.true_and];exact dF (by rw[bF] at hp;exact hp)
   go_in;go_wp2;go_ret;exact⟨fJ z.out.symm,rfl⟩
 ·have J:((n:Int)==2)=false:=by simp;omega
  have z:Hid (gx (bl op) n (bl p)=false):=by show _=_;rw[R.out,dF D];rfl
  go_in;go_wp2;go_ret;exact⟨fJ z.out.symm,rfl⟩
theorem xK (op:BA)(n:Nat)(p:BA)(w:World)(h:bl op=lJ)(z:n≠1):Calls prog 200 #[.string op,.int .i64 n,.string p] w fun e w'=>e=.returned (.bool (gx (bl op) n (bl p)))/\w=w':=by
 have E:op.toList=[119,105,116,104]:=by rw[fK];exact h
 have R:Hid (gx (bl op) n (bl p)=false):=by show _=_;rw[h];exact Ks z _
 have D:((n:Int)==1)=false:=by simp;omega
 clear h;go_in;go_wp2;go_ret;exact⟨fJ R.out.symm,rfl⟩
theorem ua (op:BA)(n:Nat)(p:BA)(w:World)(h:bl op=iC)(z:n≠1):Calls prog 200 #[.string op,.int .i64 n,.string p] w fun e w'=>e=.returned (.bool (gx (bl op) n (bl p)))/\w=w':=by
 have E:op.toList=[119,105,116,104,111,117,116]:=by rw[fK];exact h
 have R:Hid (gx (bl op) n (bl p)=false):=by show _=_;rw[h];exact BF z _
 have D:((n:Int)==1)=false:=by simp;omega
 clear h;go_in;go_wp2;go_ret;exact⟨fJ R.out.symm,rfl⟩
theorem Ku (op:BA)(n:Nat)(p:BA)(w:World)(D:Gl w):Calls prog 200 #[.string op,.int .i64 n,.string p] w fun e w'=>e=.returned (.bool (gx (bl op) n (bl p)))/\w=w':=by
 by_cases z:n=1
 ·subst z;have R:Hid (gx (bl op) 1 (bl p)=mF (bl p)):=rfl;have F:=Ea p w D;clear D;go_in;go_wp2_with fail;refine F.mono ?_;rintro e w' ⟨rfl,rfl⟩;go_wp2;go_ret;exact⟨fJ R.out.symm,rfl⟩
 rcases Ec (bl op) with h | h | h | h | h | h | h
 ·exact zh op n p w h z
 ·exact BG op n p w h z
 ·exact BH op n p w h z
 ·exact vp op n p w h z
 ·exact xK op n p w h z
 ·exact ua op n p w h z
 ·obtain⟨M,I,U,J,O,H⟩:=MQ h;have R:Hid (gx (bl op) n (bl p)=false):=Kt h z _;have K:((n:Int)==1)=false:=by simp;omega
  clear h D z;go_in;go_wp2;go_ret;exact⟨fJ R.out.symm,rfl⟩
theorem xL (op:LU):∀ (a:List mQ)(i:Nat)(b:List mQ),jM op i (a++b)=jM op i a++jM op (i+a.length) b
 | [],i,b=>by simp[jM]
 | x::r,i,b=>by
  have h:=xL op r (i+1) b;simp only[List.cons_append,jM,h,List.length_cons];rw[show i+1+r.length=i+(r.length+1) by omega];simp[List.append_assoc]
theorem MT (a b:List fL):tG (a++b)=tG a++tG b:=by rw[nZ,nZ,nZ,List.map_append]
theorem MU (a:List fL):(tG a).length=a.length:=by rw[nZ];simp
theorem XT (op:LU)(k:fL):jM op 0 (tG [k])=ij k.pl:=by simp[tG,jM]
theorem UY (op:LU)(z:List fL)(i:Nat)(t:fL)(ht:z[i+1]?=some t):jM op 0 (tG (z.take (i+2)))=jM op 0 (tG (z.take (i+1)))++([32]++XN op (i+1)++[32]++ij t.pl):=by
 obtain⟨F,D⟩:=gS ht;rw[show i+2=i+1+1 from rfl,tS F,D,MT,xL,MU,List.length_take,Nat.min_eq_left (by omega)];simp[tG,jM]
theorem MV (op:LU)(i:Nat):XN op (i+1)=if 0<i/\(op=vn\/op=ir) then AA else op:=by
 unfold XN;congr 1;apply propext;constructor<;>rintro⟨h1,h2⟩<;>exact⟨by omega,h2⟩
def TxC (T:fL):Prop:=∀ w:World,Gl w->iD w 0 none T->T.cnt<=64->Calls prog 195 #[T.val] w fun e w'=>e=.returned (.string (gX (ij T.pl)))/\Bw w w'
theorem UZ {T:fL}(h:jR T):TxC T:=by
 induction h with
 | atom nm aop ver hn ho hv0 hv=>
  intro w hG _ _;have HG:=fH hG;have aL:=(rV hn).2;have HV:=fH hv;rw[Cm _ _ _ _ _ _ _ rfl];clear hn hv0 hv hG;obtain⟨M,z⟩:∃ M,w.alloc (.cells #[.string ⟨#[]⟩,.string nm,.int .i64 aop,.string ver,.slice none 0 0] 86)=M:=⟨_,rfl⟩
  have B1:Hid (Bw w M):=by rw[<-z];exact bR.alloc lr _
  have K1:Hid (fV M w.heap.size [.string ⟨#[]⟩,.string nm,.int .i64 aop,.string ver,.slice none 0 0]):=by rw[<-z];exact fV.new w [.string ⟨#[]⟩,.string nm,.int .i64 aop,.string ver,.slice none 0 0] _
  obtain⟨k0,k1,k2,k3⟩:=ZX K1.cell;show Calls prog 195 #[.agg #[.string ⟨#[]⟩,.string nm,.int .i64 aop,.string ver,.slice none 0 0]] w _;by_cases a0:aop=0
  ·have q0:((aop:Int)==0)=true:=by simp[a0]
   have E:Hid (bl nm=ij (.atom (bl nm) aop (bl ver))):=by show _=_;simp[ij,a0]
   clear a0;go_in;go_wp2;go_ret;exact⟨by rw[<-Im E.out];rfl,B1⟩
  ·have q0:((aop:Int)==0)=false:=by simp;omega
   have aK:=DT (HV (by omega));have aI:=(HG.below B1).rsg aop (by omega);have aH:(wT aop).size<=2:=by rw[<-fI,DZ aop (by omega)];exact Sr _
   have E:Hid (bl (nm++⟨#[32]⟩++wT aop++⟨#[32]⟩++ver)=ij (.atom (bl nm) aop (bl ver))):=by
    show _=_;simp only[iO];unfold ij;rw[if_neg a0,DZ aop (by omega)];rfl
   have o2:(aop:Int)<6:=by omega
   have o3:(0:Int)<=(aop:Int):=by omega
   clear a0;go_in;go_wp2;go_quiet (fail);go_wp2;go_ret;exact⟨by rw[<-Im E.out];rfl,gh B1 _⟩
 | node op ka kc kids ho hc hk ih=>
  intro w hG hO ap;have HG:=fH hG;have HO:=fH hO;have ad:=fH ih;have ao:=fH hk;obtain⟨hw,ac⟩:=sQ ho;have ar:=fH ac;have al:op.size<=7:=by rw[<-fI];exact ac
  have o0:(op.toList==([]:LU))=false:=by rw[fK,bF];exact hw
  have o2:¬ op.toList=[]:=by rw[fK];exact hw
  have o1:op.toList.isEmpty=false:=by rw[List.isEmpty_eq_false_iff];exact o2
  obtain⟨K,D⟩:∃ K,kids.length=K:=⟨_,rfl⟩
  have an:=fH D;have aE:2<=K:=by have:=sP hc;omega
  have ak:=fH (lW (t:=.mk op ⟨#[]⟩ 0 ⟨#[]⟩ ka kc kids) (by intro e;simp only[fL.kids] at e;rw[e] at D;simp at D;omega));have J:Hid (jG kids<=64):=by have Y:=ak.out;simp only[fL.kids] at Y;show _<=_;omega
  have af:K<=64:=by have Y:=np kids;have:=J.out;omega
  have aA:K<=kc:=by have:=tW hO.row;simp only[fL.kids,fL.kc] at this;omega
  have ax:kc<=9223372036854775807:=by
   rcases hO.row.2 with⟨hv,_⟩ | ⟨g,cap,au,hv,_,_,_,h5,_⟩
   ·injection hv with _ _ h3;simp only[fL.kc] at h3;omega
   ·injection hv with _ _ h3;simp only[fL.kc] at h3;simp only[maxLen] at h5;omega
  obtain⟨g,au,I,hg,-⟩:=tY hO (by intro e;simp only[fL.kids] at e;rw[e] at D;simp at D;omega);simp only[fL.ka] at I;subst I;obtain⟨M,z⟩:∃ M,w.alloc (.cells #[.string op,.string ⟨#[]⟩,.int .i64 0,.string ⟨#[]⟩,.slice (some ⟨g,0,none⟩) K kc] 86)=M:=⟨_,rfl⟩
  have B1:Hid (Bw w M):=by rw[<-z];exact bR.alloc lr _
  have K1:Hid (fV M w.heap.size [.string op,.string ⟨#[]⟩,.int .i64 0,.string ⟨#[]⟩,.slice (some ⟨g,0,none⟩) K kc]):=by rw[<-z];exact fV.new w [.string op,.string ⟨#[]⟩,.int .i64 0,.string ⟨#[]⟩,.slice (some ⟨g,0,none⟩) K kc] _
  have k0:=K1.cell 0 _ rfl;have k4:=K1.cell 4 _ rfl;have O1:Hid (iD M 0 none (.mk op ⟨#[]⟩ 0 ⟨#[]⟩ (some ⟨g,0,none⟩) kc kids)):=HO.low B1.out
  -- the texts are short
  have TS:Hid (∀ t∈kids,(gX (ij t.pl)).size<=12800):=fun t ht=>by
   have Y:=(ao t ht).text;have h2:=pm ht;have:=J.out;rw[iB];omega
  have PS:Hid (∀ i,(jM (bl op) 0 (tG (kids.take i))).length<=12800):=fun i=>by
   have Y:=ze (bl op) ar (kids.take i) 0 (fun k hk=>(ao.out k (List.mem_of_mem_take hk)).text);have h2:=pS kids i;have:=J.out;omega
  obtain⟨t0,U⟩:∃ t,kids[0]?=some t:=⟨_,gG (by omega)⟩
  have aB:=fH U;have R:Hid (t0∈kids):=gM U;obtain⟨b',off,I,he⟩:=O1.rd.cell 0 t0 U;simp only[fL.ka] at I;injection I with I;injection I with H ho' _;subst H ho';obtain⟨e0,e1,e2,e3,e4⟩:=rF he;simp only[Nat.zero_mul,Nat.add_zero,Nat.zero_add] at e0 e1 e2 e3 e4;have hcall:=ad.out t0 R M (HG.below B1) (O1.kids t0 R) (by have Y:=pm R.out;have:=J.out;omega);have ag:=TS.out t0 R.out;obtain⟨X0,ab⟩:∃ X0,gX (ij t0.pl)=X0:=⟨_,rfl⟩
  rw[ab] at hcall ag;have aD:Hid (bl X0=ij t0.pl):=by show _=_;rw[<-ab,iS]
  unfold fL.val at hcall;rw[Cn _ _ _ _ _ _ _ hw];have O:=fun W=>gi (T:=84) (E:=86) (sz:=5) (n:=K) (c:=kc) (k:=0) (A:=some ⟨g,0,none⟩) underlying84 rfl sizeOf86 rfl (by omega) W;simp only[Nat.zero_mul,Nat.add_zero] at O;clear ho hc hk ih hG hO hw ac D ap ak hg he U ab;show Calls prog 195 #[.agg #[.string op,.string ⟨#[]⟩,.int .i64 0,.string ⟨#[]⟩,.slice (some ⟨g,0,none⟩) kids.length kc]] w _;rw[an.out];go_in;go_wp2_with fail;refine hcall.mono ?_;rintro e w2 ⟨rfl,H⟩;have B2:=fH (fM B1 H);have K2:=fH (K1.below H);have O2:=fH (O1.low H);clear hcall H e0 e1 e2 e3 e4 k0 k4 O z;have k0:=K2.cell 0 _ rfl;have k4:=K2.cell 4 _ rfl;have S0:Hid (bl (⟨#[40]⟩++X0)=[40]++jM (bl op) 0 (tG (kids.take 1))):=by
   show _=_;obtain⟨aq,az⟩:=gS aB.out;rw[tS aq,az];simp only[List.take_zero,List.nil_append];rw[XT,iO,aD.out];rfl
  go_wp2_with fail;obtain⟨rl,aj⟩:∃ rl,K-1=rl:=⟨_,rfl⟩
  have RL:Hid (kids.length=rl+1):=by have:=an.out;show _=_;omega
  rw[aj];have ay:rl<=64:=by omega
  have aJ:Hid (w.heap.size<w2.heap.size):=K2.sz;have ai:(⟨#[40]⟩++X0:BA).size<=12900:=by rw[<-fI,S0.out,List.length_append];have:=PS.out 1;simp;omega
  clear aj k0 k4 aA ax aE af ag;go_loopw [3,42] (fun sv iv wr=>∃ (i:Nat) (S:BA),sv=.string S/\iv=.int .i64 i/\i<=rl/\S.size<=12900/\Hid (bl S=[40]++jM (bl op) 0 (tG (kids.take (i+1))))/\Hid (Bw w wr)/\Hid (fV wr w.heap.size [.string op,.string ⟨#[]⟩,.int .i64 0,.string ⟨#[]⟩,.slice (some ⟨g,0,none⟩) K kc])) (fun _ iv _=>rl-(intOf iv).toNat)
  case atStart=>exact⟨0,_,rfl,rfl,z0,ai,S0,B2,K2⟩
  case round=>
   clear ai S0 K2;obtain⟨i,S,rfl,rfl,hi,hS,HS,HB,HK⟩:=hrel;by_cases av:i<rl
   ·obtain⟨t,ht⟩:∃ t,kids[i+1]?=some t:=⟨_,gG (by rw[RL.out];omega)⟩
    have HT:=fH ht;have V:Hid (t∈kids):=gM ht;have O3:=HO.low HB.out;obtain⟨b',off,I,he⟩:=O3.rd.cell (i+1) t ht;simp only[fL.ka] at I;injection I with I;injection I with H ho' _;subst H ho';obtain⟨e0,e1,e2,e3,e4⟩:=rF he;have Z:0+(i+1)*5=5+i*5:=by omega
    rw[Z] at e0 e1 e2 e3 e4;simp only[Nat.add_zero] at e0;have O:=fun W=>gi (T:=84) (E:=86) (sz:=5) (n:=rl) (c:=kc-1) (k:=i) (A:=some ⟨g,5,none⟩) underlying84 rfl sizeOf86 rfl av W;obtain⟨W3,aa⟩:∃ W3,wr.alloc (.cells #[.string t.op,.string t.nm,.int .i64 t.aop,.string t.ver,.slice t.ka t.kids.length t.kc] 86)=W3:=⟨_,rfl⟩
    have B3:Hid (Bw wr W3):=by rw[<-aa];exact bR.alloc lr _
    have K3:Hid (fV W3 wr.heap.size t.cells):=by rw[<-aa];exact fV.new wr t.cells _
    have B4:=fH (fM HB B3);have am:=fH (HK.below B3);have hcall:=ad.out t V W3 (HG.below B4) ((O3.low B3).kids t V) (by have Y:=pm V.out;have:=J.out;omega);have hz:=TS.out t V.out;obtain⟨X,hX⟩:∃ X,gX (ij t.pl)=X:=⟨_,rfl⟩
    rw[hX] at hcall hz;have HX:Hid (bl X=ij t.pl):=by show _=_;rw[<-hX,iS]
    unfold fL.val at hcall;obtain⟨a0,a1,a2,a3,a4⟩:=rF K3.cell;have b0:=am.cell 0 _ rfl;clear ht he O3 hX Z;go_upto_region 10 with(fail)
    clear aa e0 e1 e2 e3 e4 O;obtain⟨bb,ae⟩:∃ bb:Bool,decide (0<i/\(bl op=vn\/bl op=ir))=bb:=⟨_,rfl⟩
    have F:=fH ae;clear ae;go_cut [58] (fun v wx=>v=.bool bb/\W3=wx)
    case first=>
     clear hcall;by_cases i0:0<i
     ·have q1:decide ((0:Int)<(i:Int))=true:=dT (by omega);have q2:decide (0<i)=true:=dT i0;by_cases w1:bl op=vn
      ·have F1:op.toList=[105,102]:=by rw[fK];exact w1
       have E2:Hid (bb=true):=by show _=_;rw[<-F.out];exact dT ⟨i0,.inl w1⟩
       clear w1 o0 o1 o2;go_wp2;go_meet;exact⟨by rw[E2.out],rfl⟩
      ·have F1:(op.toList==([105,102]:LU))=false:=by rw[fK,bF];exact w1
       by_cases w2:bl op=ir
       ·have F2:op.toList=[117,110,108,101,115,115]:=by rw[fK];exact w2
        have E2:Hid (bb=true):=by show _=_;rw[<-F.out];exact dT ⟨i0,.inr w2⟩
        clear w1 w2 o0 o1 o2 F1;go_wp2;go_meet;exact⟨by rw[E2.out],rfl⟩
       ·have F2:(op.toList==([117,110,108,101,115,115]:LU))=false:=by rw[fK,bF];exact w2
        have E2:Hid (bb=false):=by show _=_;rw[<-F.out];exact dF (by rintro⟨_,h | h⟩<;>contradiction)
        clear w1 w2 o0 o1 o2;go_wp2;go_meet;exact⟨by rw[E2.out],rfl⟩
     ·have q1:decide ((0:Int)<(i:Int))=false:=dF (by omega);have q2:decide (0<i)=false:=dF i0;have E2:Hid (bb=false):=by show _=_;rw[<-F.out];exact dF (fun h=>i0 h.1)
      go_wp2;go_meet;exact⟨by rw[E2.out],rfl⟩
    case rest=>
    obtain⟨rfl,rfl⟩:=hcut;go_upto_if 58 with(fail)
    go_cut [6] (fun v wx=>∃ Wd:BA,v=.string Wd/\Wd.size<=7/\Hid (bl Wd=XN (bl op) (i+1))/\W3=wx)
    case first=>
     cases bb with
     | true=>
      have E:Hid (bl ⟨#[101,108,115,101]⟩=XN (bl op) (i+1)):=by show _=_;rw[MV,if_pos (dO F.out)];rfl
      go_wp2;go_meet;exact⟨_,rfl,by decide,E,rfl⟩
     | false=>
      have E:Hid (bl op=XN (bl op) (i+1)):=by show _=_;rw[MV,if_neg (of_decide_eq_false F.out)]
      go_wp2;go_meet;exact⟨_,rfl,al,E,rfl⟩
    case rest=>
    obtain⟨Wd,rfl,aG,EW,rfl⟩:=hcut;have SN:Hid (bl (S++(⟨#[32]⟩++Wd++⟨#[32]⟩++X))=[40]++jM (bl op) 0 (tG (kids.take (i+2)))):=by
     show _=_;rw[UY _ _ _ _ HT.out];simp only[iO];rw[HS.out,EW.out,HX.out];simp[List.append_assoc];rfl
    have ah:(S++(⟨#[32]⟩++Wd++⟨#[32]⟩++X):BA).size<=12900:=by rw[<-fI,SN.out,List.length_append];have:=PS.out (i+2);simp;omega
    have aC:Hid ((S++(⟨#[32]⟩++Wd++⟨#[32]⟩++X):BA).size<=12900):=ah;clear ah;obtain⟨a0,a1,a2,a3,a4⟩:=rF K3.cell;go_wp2_with fail;refine hcall.mono ?_;rintro e w4 ⟨rfl,H⟩;have B5:=fH (fM B4 H);have aF:=fH (am.below H);clear hcall H a0 a1 a2 a3 a4 b0;go_wp2;go_roundw
    case rel=>exact⟨i+1,_,rfl,by go_num,by omega,aC,SN,B5,aF⟩
    case measure=>simp[intOf];omega
   ·have E:Hid (bl (S++⟨#[41]⟩)=ij (.node (bl op) (tG kids))):=by
     have Y:=HS.out;rw[tL (by rw[RL.out];omega)] at Y;show _=_;rw[iO,Y];rfl
    go_wp2;go_ret;exact⟨by rw[<-Im E.out];rfl,HB⟩
structure PR (w:World) (a hi:Nat) (l:LU) (n m:Nat):Prop where
 blk:∃ (b off c f:Nat) (xs:List IL),fV w a [.slice (some ⟨b,off,none⟩) m c,.int .i64 n]/\Rd w 2 (some ⟨b,off,none⟩) m (xs.flatMap IL.cells)/\xs.length=m/\xs.map (fun x=>bl x.text)=lX (f+1) l/\l.length<=f/\b≠a/\b<hi/\m<=c/\c<=maxLen/\∀ x∈xs,x.text.size<=4294967280
 lt:a<hi
 hz:hi<=w.heap.size
structure PRc (w:World) (a b off m c n:Nat) (T:BA) (p:Nat):Prop where
 c0:w.cell? ⟨a,0,none⟩=some (.slice (some ⟨b,off,none⟩) m c)
 c1:w.cell? ⟨a,1,none⟩=some (.int .i64 n)
 f0:w.frozen? ⟨a,0,none⟩=false
 f1:w.frozen? ⟨a,1,none⟩=false
 t0:w.cell? ⟨b,off,none⟩=some (.string T)
 t1:w.cell? ⟨b,off+1,none⟩=some (.int .i64 p)
 ne:b≠a
 m1:1<=m
 mc:m<=c
 cz:c<=maxLen
 tz:T.size<=4294967280
theorem PR.cells (h:PR w a hi l n m):∃ b off c T p,PRc w a b off m c n T p/\bl T=gJ l/\(gJ l≠[]->2<=m/\PR (w.setCell ⟨a,0,none⟩ (.slice (some ⟨b,off+2,none⟩) ((m-1:Nat)) ((c-1:Nat)))) a hi (gY l) n (m-1)):=by
 obtain⟨b,off,c,f,I,k,hr,V,K,hf,z,M,R,aa,hz⟩:=h.blk;obtain⟨r,h1,h2⟩:=wu f l;rw[h1] at K;cases I with
 | nil=>simp at K
 | cons x I=>
  simp only[List.map_cons,List.cons.injEq] at K;obtain⟨Y,H⟩:=K;have F:0<m:=by rw[<-V];simp
  obtain⟨b',ab,e,Z⟩:=hr.2 F;injection e with e;injection e with eb eo _;subst eb eo;have u0:=Z 0 (.string x.text) rfl;have u1:=Z 1 (.int .i64 x.at_) rfl;refine⟨b,off,c,x.text,x.at_,⟨k.cell 0 _ rfl,k.cell 1 _ rfl,k.free 0 (by simp),k.free 1 (by simp),u0,u1,z,F,R,aa,hz x (by simp)⟩,Y,fun U=>?_⟩;have D:=h2 U;have X:∃ J,f=J+1:=⟨f-1,by have:=qA U;omega⟩
  obtain⟨J,rfl⟩:=X;obtain⟨r',h3,_⟩:=wu J (gY l);have O:2<=m:=by
   rw[<-V,List.length_cons];have:I.length=r.length:=by rw[<-H,List.length_map]
   rw[D,h3] at this;simp at this;omega
  refine⟨O,⟨b,off+2,c-1,J,I,k.set 0 (by simp) _,?_,?_,?_,?_,z,M,by omega,by omega,fun y hy=>hz y (by simp[hy])⟩,h.lt,by simpa using h.hz⟩
  ·have hk:∀ p:Addr,p.block=b->(w.setCell ⟨a,0,none⟩ (.slice (some ⟨b,off+2,none⟩) (m-1) (c-1))).cell? p=w.cell? p:=fun p hp=>World.cell?_setCell_other _ _ _ _ (by intro h;apply z;rw[<-hp,<-h]);refine⟨?_,fun _=>⟨b,off+2,rfl,fun j u hu=>?_⟩⟩
   ·have:=hr.1;rw[List.flatMap_cons,List.length_append,aan] at this;omega
   ·rw[hk _ rfl];have:=Z (j+2) u (by rw[List.flatMap_cons,List.getElem?_append_right (by simp[IL.cells])];simpa [IL.cells] using hu);rw[show off+2+j=off+(j+2) by omega];exact this
  ·rw[<-V];simp
  ·rw[H,D]
  ·have:=qA U;omega
theorem PR.grown {row:Option Nat}(h:PR w a hi l n m)(F:w.grownBy w' row)(D:∀ j,row=some j->hi<=j):PR w' a hi l n m:=by
 obtain⟨b,off,c,f,U,k,J,Y,X,R,H,z,O⟩:=h.blk;have K:∀ j,j<hi->some j≠row:=fun j hj e=>by have:=D j e.symm;omega
 refine⟨⟨b,off,c,f,U,k.grownBy F (K a h.lt),?_,Y,X,R,H,z,O⟩,h.lt,Nat.le_trans h.hz F.size⟩;refine⟨J.1,fun M=>?_⟩;obtain⟨b',I,e,Z⟩:=J.2 M;injection e with e;injection e with e1 e2 _;subst e1 e2;exact⟨b,off,rfl,fun j u V=>F.cell (Z j u V) (K b z)⟩
theorem PR.below (h:PR w a hi l n m)(z:Bw w w'):PR w' a hi l n m:=h.grown (kS z none) (by simp)
theorem PR.sz (h:PR w a hi l n m):a<w.heap.size:=Nat.lt_of_lt_of_le h.lt h.hz
theorem PR.alloc (h:PR w a hi l n m)(o:Obj):PR (w.alloc o) a hi l n m:=h.below (bR.alloc lr o)
theorem PR.far (h:PR w a hi l n m)(z:hi<=b)(v:Value):PR (w.setCell ⟨b,j,none⟩ v) a hi l n m:=h.grown (gU v) (fun j e=>by injection e with e;omega)
theorem PR.count (h:PR w a hi l n m)(v:Nat):PR (w.setCell ⟨a,1,none⟩ (.int .i64 v)) a hi l v m:=by
 obtain⟨b,off,c,f,J,k,F,H,V,I,z,K⟩:=h.blk;refine⟨⟨b,off,c,f,J,k.set 1 (by simp) _,?_,H,V,I,z,K⟩,h.lt,by simpa using h.hz⟩;refine⟨F.1,fun R=>?_⟩;obtain⟨O,D,e,U⟩:=F.2 R;refine⟨O,D,e,fun j u M=>?_⟩;rw[World.cell?_setCell_other (h:=by injection e with e;injection e with e1;intro h;apply z;rw[e1];injection h with h;exact h.symm)];exact U j u M
theorem Su:∀ f:Nat,(∀ deep n l t l' n',lV f deep n l=some (t,l',n')->l'.length<l.length)/\(∀ deep n acc op l t l' n',nK f deep n acc op l=some (t,l',n')->l'.length<l.length)
 | 0=>⟨fun _ _ _ _ _ _ h=>by simp[lV] at h,fun _ _ _ _ _ _ _ _ h=>by simp[nK] at h⟩
 | f+1=>by
  obtain⟨F,z⟩:=Su f;have skip:∀ l:LU,(gY l).length<=l.length:=XP;constructor
  ·intro deep n l t l' n' h;unfold lV at h;split at h
   ·simp at h
   ·rename_i K;have J:gJ l≠[]:=fun e=>K (.inl e);have D:=qA J;split at h
    ·split at h
     ·simp at h
     ·have:=z _ _ _ _ _ _ _ _ h;omega
    ·unfold mu at h;split at h
     ·simp at h
     ·split at h
      ·unfold qy at h;split at h
       ·simp only[Option.some.injEq,Prod.mk.injEq] at h;obtain⟨_,rfl,_⟩:=h;exact D
       ·unfold pC at h;split at h
        ·simp at h
        ·split at h
         ·simp only[Option.some.injEq,Prod.mk.injEq] at h;obtain⟨_,rfl,_⟩:=h;have R:=skip (gY l);have O:=skip (gY (gY l));omega
         ·simp at h
      ·simp at h
  ·intro deep n acc op l t l' n' h;unfold nK at h;split at h
   ·simp at h
   ·rename_i k H U I;have V:=F _ _ _ _ _ _ I;split at h
    ·simp only[Option.some.injEq,Prod.mk.injEq] at h;obtain⟨_,rfl,_⟩:=h;have:=skip H;omega
    ·split at h
     ·have M:=z _ _ _ _ _ _ _ _ h;have:=skip H;omega
     ·simp at h
theorem iD.grown2 {old new:Option Nat}{t:fL}(h:iD wb lo old t)(F:wb.grownBy w2 old)(H:new=old\/new=some wb.heap.size):iD w2 lo new t:=by
 induction h with
 | mk t row ne _ ih=>
  have D:(Value.slice t.ka t.kids.length t.kc).ownBlock=none\/(Value.slice t.ka t.kids.length t.kc).ownBlock≠old:=by
   cases z:(Value.slice t.ka t.kids.length t.kc).ownBlock with
   | none=>exact .inl rfl
   | some g=>exact .inr (ne g z)
  refine .mk t (row.kept F D) (fun g z e=>?_) ih;rcases H with rfl | rfl
  ·exact ne g z e
  ·injection e with e;have:=(row.lt g z).2;omega
structure LC (w wr:World) (a hi:Nat) (l:LU) (n r:Nat) (OP:BA) (ks:List fL) (A:OA) (m cc:Nat):Prop where
 len:ks.length=m
 box:fV wr w.heap.size [.string OP,.string ⟨#[]⟩,.int .i64 0,.string ⟨#[]⟩,.slice A m cc]
 row:wr.ownsRow (w.heap.size+1) 86 5 (.slice A m cc) m (ks.flatMap fL.cells)
 kids:∀ k∈ks,iD wr (w.heap.size+1) (Value.slice A m cc).ownBlock k
 good:∀ k∈ks,jR k
 pr:PR wr a hi l n r
 gr:w.grownBy wr (some a)
 lt:hi<=w.heap.size
theorem LC.start {r:Nat}(h:PR w a hi l n r)(t:TypeId):LC w (w.alloc (.cells #[.string ⟨#[]⟩,.string ⟨#[]⟩,.int .i64 0,.string ⟨#[]⟩,.slice none 0 0] t)) a hi l n r ⟨#[]⟩ [] none 0 0:=
 ⟨rfl,fV.new w _ t,World.ownsRow_nil _ _ _ _,by simp,by simp,h.alloc _,kS (bR.alloc lr _) _,h.hz⟩
theorem LC.alt {r:Nat}{ks:List fL}(h:LC w wr a hi l n r OP ks A m cc):a<w.heap.size:=by have:=h.pr.lt;have:=h.lt;omega
theorem LC.step {r r':Nat}{ks:List fL}(h:LC w wr a hi l n r OP ks A m cc)(z:wr.grownBy w' (some a))(D:PR w' a hi l' n' r'):LC w w' a hi l' n' r' OP ks A m cc:=by
 have H:=h.alt;exact⟨h.len,h.box.grownBy z (by simp;omega),gZ h.row (by omega) z,fun k F=>(h.kids k F).kept (by omega) z,h.good,D,fN h.gr z,h.lt⟩
theorem LC.below {r:Nat}{ks:List fL}(h:LC w wr a hi l n r OP ks A m cc)(z:Bw wr w'):LC w w' a hi l n r OP ks A m cc:=
 h.step (kS z _) (h.pr.below z)
theorem LC.put {r:Nat}{ks:List fL}(h:LC w wr a hi l n r OP ks A m cc)(P:BA):LC w (wr.setCell ⟨w.heap.size,0,none⟩ (.string P)) a hi l n r P ks A m cc:=
 ⟨h.len,h.box.set 0 (by simp) _,gZ h.row (by omega) (gU _),fun k z=>(h.kids k z).kept (by omega) (gU _),h.good,h.pr.far h.lt _,oJ h.gr (gU _) (fun j e=>by injection e with e;omega),h.lt⟩
theorem LC.grow {r:Nat}{ks:List fL}{T:fL}(h:LC w wb a hi l n r OP ks A m cc)(K:iD wb (w.heap.size+1) (Value.slice A m cc).ownBlock T)(F:jR T)
  (M:w2.ownsRow (w.heap.size+1) 86 5 (.slice A1 (m+1) c1) (m+1) (ks.flatMap fL.cells++T.cells))
  (D:wb.grownBy w2 (Value.slice A m cc).ownBlock)(H:(Value.slice A1 (m+1) c1).ownBlock=(Value.slice A m cc).ownBlock\/(Value.slice A1 (m+1) c1).ownBlock=some wb.heap.size):
  LC w (w2.setCell ⟨w.heap.size,4,none⟩ (.slice A1 (m+1) c1)) a hi l n r OP (ks++[T]) A1 (m+1) c1:=by
 have far:∀ j,(Value.slice A m cc).ownBlock=some j->w.heap.size+1<=j:=fun j J=>(h.row.lt j J).1;have O:=h.lt;have I:fV w2 w.heap.size [.string OP,.string ⟨#[]⟩,.int .i64 0,.string ⟨#[]⟩,.slice A m cc]:=h.box.grownBy D (fun e=>by have:=far _ e.symm;omega);refine⟨by simp[h.len],I.set 4 (by simp) _,?_,fun k z=>?_,fun k z=>?_,?_,?_,h.lt⟩
 ·rw[List.flatMap_append];exact gZ (by simpa using M) (by omega) (gU _)
 ·refine iD.kept ?_ (by omega) (gU _);rcases List.mem_append.1 z with z | z
  ·exact(h.kids k z).grown2 D H
  ·obtain rfl:=List.mem_singleton.1 z;exact K.grown2 D H
 ·rcases List.mem_append.1 z with z | z
  ·exact h.good k z
  ·obtain rfl:=List.mem_singleton.1 z;exact F
 ·exact(h.pr.grown D (fun j e=>by have:=far j e;omega)).far O _
 ·exact oJ (oJ h.gr D (fun j e=>by have:=far j e;omega)) (gU _) (fun j e=>by injection e with e;omega)
def ju (r:Option (mQ×LU×Nat))(a hi m deep n:Nat)(w:World)(e:Ending)(w':World):Prop:=
 w.grownBy w' (some a)/\match r with
  | none=>∃ (f:BA) (x c:Int),e=.returned (.tuple #[rW.val,lF f x c])/\c≠0
  | some (t,l',n')=>∃ (T:fL) (m':Nat),e=.returned (.tuple #[T.val,lF ⟨#[]⟩ 0 0])/\T.pl=t/\jR T/\iD w' w.heap.size none T/\T.ht+deep<=32/\n'=n+T.cnt/\n'<=64/\PR w' a hi l' n' m'/\m'<m
theorem ju.no {r:Option (mQ×LU×Nat)}{f:BA}{x c:Int}(F:r=none)(z:w.grownBy w' (some a))(D:c≠0):ju r a hi m deep n w (.returned (.tuple #[rW.val,lF f x c])) w':=by
 subst F;exact⟨z,f,x,c,rfl,D⟩
theorem ju.yes {r:Option (mQ×LU×Nat)}{T:fL}(H:r=some (T.pl,l',n'))(O:w.grownBy w' (some a))(I:jR T)(D:iD w' w.heap.size none T)(M:T.ht+deep<=32)(F:n'=n+T.cnt)(K:n'<=64)(z:PR w' a hi l' n' m')(J:m'<m):ju r a hi m deep n w (.returned (.tuple #[T.val,lF ⟨#[]⟩ 0 0])) w':=by
 subst H;exact⟨O,T,m',rfl,rfl,I,D,M,F,K,z,J⟩
theorem U0 {acc:List mQ}(h:lV f deep n l=none):nK (f+1) deep n acc op l=none:=by unfold nK;rw[h]
theorem XU {acc:List mQ}{k:mQ}(h:lV f deep n l=some (k,l1,n1))(z:gJ l1=[41])(D:acc≠[]):nK (f+1) deep n acc op l=some (.node op (acc++[k]),gY l1,n1):=by
 unfold nK;rw[h];simp only;rw[if_pos ⟨z,D⟩]
theorem U1 {acc:List mQ}{k:mQ}(h:lV f deep n l=some (k,l1,n1))(z:¬ (gJ l1=[41]/\acc≠[]))(D:gx op (acc.length+1) (gJ l1)=true):nK (f+1) deep n acc op l=nK f deep n1 (acc++[k]) (if acc=[] then gJ l1 else op) (gY l1):=by
 rw[nK,h];simp only;rw[if_neg z,if_pos D]
theorem XV {acc:List mQ}{k:mQ}(h:lV f deep n l=some (k,l1,n1))(z:¬ (gJ l1=[41]/\acc≠[]))(D:gx op (acc.length+1) (gJ l1)=false):nK (f+1) deep n acc op l=none:=by
 rw[nK,h];simp only;rw[if_neg z,if_neg (by simp[D])]
theorem lP (t:BA)(q c:Int)(w:World):Calls prog 95 #[.agg #[.string t,.int .i64 q],.int .i64 c] w fun e w'=>e=.returned (lF ⟨#[]⟩ q c)/\Bw w w':=by
 go_in;go_wp2_with fail;refine bodyPost_ret (v:=lF ⟨#[]⟩ q c) (by simp[results,results95,go_sem,lF]) rfl ?_;refine⟨rfl,?_⟩
 repeat' refine fO ?_ (by omega) _
 exact(bR.alloc lr _).alloc (by simp) _
theorem oL (a H n m:Nat)(l:LU)(w:World)(h:PR w a H l n m)(D:gJ l≠[]):Calls prog 147 #[.pointer (some ⟨a,0,none⟩)] w fun e w'=>e=.returned (.tuple #[])/\PR w' a H (gY l) n (m-1)/\w.grownBy w' (some a)/\2<=m:=by
 obtain⟨b,off,c,T,p,k,J,z⟩:=h.cells;obtain⟨z,F⟩:=z D;have K:=fH F;obtain⟨c0,X,M,O,Y,Z,R,m1,U,I,V⟩:=k;simp only[maxLen] at I;clear F h D J;go_in;go_wp2;go_end0;exact⟨rfl,K,gU _,z⟩
abbrev rB (W:World) (s:Nat) (v0 v1 v2 v3 v4 u0 u1 u2:Value):World:=
 (((((((W.setCell ⟨s,0,none⟩ v0).setCell ⟨s,1,none⟩ v1).setCell ⟨s,2,none⟩ v2).setCell ⟨s,3,none⟩ v3).setCell ⟨s,4,none⟩ v4).setCell ⟨s+1,0,none⟩ u0).setCell ⟨s+1,1,none⟩ u1).setCell ⟨s+1,2,none⟩ u2
theorem jw (h:w.grownBy W (some a))(J:w.heap.size<=s)(H F D z I u0 u1 u2:Value):w.grownBy (rB W s H F D z I u0 u1 u2) (some a):=by
 unfold rB
 repeat' refine fX ?_ (.inr (by simp only;omega)) _
 exact h
theorem Co (h:PR W a hi l n m)(J:hi<=s)(H F D z I u0 u1 u2:Value):PR (rB W s H F D z I u0 u1 u2) a hi l n m:=by
 unfold rB
 repeat' refine PR.far ?_ (by omega) _
 exact h
theorem Eh {bad:Option Nat}{T:fL}(h:iD W lo bad T)(J:s+1<lo)(H F D z I u0 u1 u2:Value):iD (rB W s H F D z I u0 u1 u2) lo bad T:=by
 unfold rB
 repeat' refine iD.kept ?_ (by omega) (gU _)
 exact h
structure IR (W:World) (s:Nat):Prop where
 b0:fV W s [.string ⟨#[]⟩,.string ⟨#[]⟩,.int .i64 0,.string ⟨#[]⟩,.slice none 0 0]
 b1:fV W (s+1) [.string ⟨#[]⟩,.int .i64 0,.int .i64 0]
structure Qp (W:World) (s:Nat):Prop where
 x0:W.cell? ⟨s,0,none⟩=some (.string ⟨#[]⟩)
 x1:W.cell? ⟨s,1,none⟩=some (.string ⟨#[]⟩)
 x2:W.cell? ⟨s,2,none⟩=some (.int .i64 0)
 x3:W.cell? ⟨s,3,none⟩=some (.string ⟨#[]⟩)
 x4:W.cell? ⟨s,4,none⟩=some (.slice none 0 0)
 y0:W.cell? ⟨s+1,0,none⟩=some (.string ⟨#[]⟩)
 y1:W.cell? ⟨s+1,1,none⟩=some (.int .i64 0)
 y2:W.cell? ⟨s+1,2,none⟩=some (.int .i64 0)
 f0:W.frozen? ⟨s,0,none⟩=false
 f1:W.frozen? ⟨s,1,none⟩=false
 f2:W.frozen? ⟨s,2,none⟩=false
 f3:W.frozen? ⟨s,3,none⟩=false
 f4:W.frozen? ⟨s,4,none⟩=false
 g0:W.frozen? ⟨s+1,0,none⟩=false
 g1:W.frozen? ⟨s+1,1,none⟩=false
 g2:W.frozen? ⟨s+1,2,none⟩=false
theorem IR.c (h:IR W s):Qp W s:=
 ⟨h.b0.cell 0 _ rfl,h.b0.cell 1 _ rfl,h.b0.cell 2 _ rfl,h.b0.cell 3 _ rfl,h.b0.cell 4 _ rfl,h.b1.cell 0 _ rfl,h.b1.cell 1 _ rfl,h.b1.cell 2 _ rfl,h.b0.free 0 (by simp),h.b0.free 1 (by simp),h.b0.free 2 (by simp),h.b0.free 3 (by simp),h.b0.free 4 (by simp),h.b1.free 0 (by simp),h.b1.free 1 (by simp),h.b1.free 2 (by simp)⟩
theorem IR.step (h:IR W s)(z:W.grownBy W' (some a))(D:a<s):IR W' s:=
 ⟨h.b0.grownBy z (by simp;omega),h.b1.grownBy z (by simp;omega)⟩
theorem IR.below (h:IR W s)(z:Bw W W'):IR W' s:=⟨h.b0.below z,h.b1.below z⟩
theorem IR.new (w:World)(t z:TypeId):IR ((w.alloc (.cells #[.string ⟨#[]⟩,.string ⟨#[]⟩,.int .i64 0,.string ⟨#[]⟩,.slice none 0 0] t)).alloc (.cells #[.string ⟨#[]⟩,.int .i64 0,.int .i64 0] z)) w.heap.size:=by
 refine⟨(fV.new w _ t).alloc _,?_⟩;have:=fV.new (w.alloc (.cells #[.string ⟨#[]⟩,.string ⟨#[]⟩,.int .i64 0,.string ⟨#[]⟩,.slice none 0 0] t)) [.string ⟨#[]⟩,.int .i64 0,.int .i64 0] z;simpa using this
theorem rX (z:Array Value)(h:Qp W s)(O:z[2]?=some (.pointer (some ⟨s,0,none⟩)))(X:z[3]?=some (.pointer (some ⟨s+1,0,none⟩)))(J H F D I u0 u1 u2:Value)
  (hv:J.oneCell'=true/\H.oneCell'=true/\F.oneCell'=true/\D.oneCell'=true/\I.oneCell'=true/\u0.oneCell'=true/\u1.oneCell'=true/\u2.oneCell'=true):
  (results Tryz.f149 z).run prog (rB W s J H F D I u0 u1 u2)=.ok (.tuple #[.agg #[J,H,F,D,I],.agg #[u0,u1,u2]]) (rB W s J H F D I u0 u1 u2):=by
 obtain⟨M,V,x2,Y,R,K,Z,U,_,_,_,_,_,_,_,_⟩:=h;simp(maxDischargeDepth:=10) [results,results149,O,X,go_sem,M,V,x2,Y,R,K,Z,U]
structure xM (w W:World) (a hi:Nat) (l:LU) (n m:Nat):Prop where
 two:IR W w.heap.size
 pr:PR W a hi l n m
 gr:w.grownBy W (some a)
 gl:yY a W
 lt:hi<=w.heap.size
theorem xM.alt (h:xM w W a hi l n m):a<w.heap.size:=by have:=h.pr.lt;have:=h.lt;omega
theorem xM.start (D:yY a w)(h:PR w a hi l n m)(t z:TypeId):xM w ((w.alloc (.cells #[.string ⟨#[]⟩,.string ⟨#[]⟩,.int .i64 0,.string ⟨#[]⟩,.slice none 0 0] t)).alloc (.cells #[.string ⟨#[]⟩,.int .i64 0,.int .i64 0] z)) a hi l n m:=by
 have B:Bw w ((w.alloc (.cells #[.string ⟨#[]⟩,.string ⟨#[]⟩,.int .i64 0,.string ⟨#[]⟩,.slice none 0 0] t)).alloc (.cells #[.string ⟨#[]⟩,.int .i64 0,.int .i64 0] z)):=(bR.alloc lr _).alloc (by simp) _;exact⟨IR.new w t z,h.below B,kS B _,D.below B,h.hz⟩
theorem xM.step (h:xM w W a hi l n m)(z:W.grownBy W' (some a))(D:PR W' a hi l' n' m'):xM w W' a hi l' n' m':=
 ⟨h.two.step z h.alt,D,fN h.gr z,h.gl.kept z,h.lt⟩
theorem xM.below (h:xM w W a hi l n m)(z:Bw W W'):xM w W' a hi l n m:=h.step (kS z _) (h.pr.below z)
theorem xM.far (h:xM w W a hi l n m)(K:w.heap.size+2<=b)(v:Value):xM w (W.setCell ⟨b,j,none⟩ v) a hi l n m:=by
 have F:=h.lt;refine⟨⟨h.two.b0.far (by omega) v,h.two.b1.far (by omega) v⟩,h.pr.far (by omega) v,fX h.gr (.inr (by show _<=b;omega)) v,?_,F⟩;obtain⟨H,D,z,I⟩:=h.gl;have J:=h.pr.lt;exact⟨H,D,fO z (by omega) v,I⟩
theorem fV.stay {vs:LV}(k:fV W b vs)(h:xM w W a hi l n m)(D:w.heap.size<=b)(z:W.grownBy W' (some a)):fV W' b vs:=k.grownBy z (by have:=h.alt;simp;omega)
theorem Ei (W:World)(lo:Nat)(z:Option Nat)(nm:BA)(o:Nat)(v:BA):iD W lo z (.mk ⟨#[]⟩ nm o v none 0 []):=
 .mk _ (World.ownsRow_nil _ _ _ _) (fun g F=>by simp[fL.ka,fL.kc,Value.ownBlock] at F) (fun k D=>by simp[fL.kids] at D)
theorem U6 (l:LU):mu 64 l=none:=by unfold mu;rw[if_pos rfl]
theorem XW (h:MK (gJ l)=0):qy nm n l=some (.atom nm 0 [],l,n):=by unfold qy;rw[if_pos h]
theorem aap (h:MK (gJ l)≠0):qy nm n l=pC nm (MK (gJ l)) n (gY l):=by unfold qy;rw[if_neg h]
theorem Qq (h:gJ l=[]\/gJ l=[40]\/gJ l=[41]):pC nm o n l=none:=by unfold pC;rw[if_pos h]
theorem MW (h:gL 2 (gX (gJ l))≠0):pC nm o n l=none:=by
 unfold pC;split
 ·rfl
 ·simp[h]
theorem XX (z:¬ (gJ l=[]\/gJ l=[40]\/gJ l=[41]))(h:gL 2 (gX (gJ l))=0):pC nm o n l=some (.atom nm o (gJ l),gY l,n):=by unfold pC;rw[if_neg z,if_pos h]
theorem acm (p:LU):MK p<=5:=by unfold MK;(repeat' split)<;>omega
theorem XY (h:MK p≠0):p≠[]:=by rintro rfl;exact h rfl
theorem U7 (a hi n m af:Nat)(l:LU)(w:World)(hG:yY a w)(h:PR w a hi l n m)(hn:n<=64)(hd:af<=32):Calls prog 149 #[.pointer (some ⟨a,0,none⟩)] w (ju (mu n l) a hi m af n w):=by
 obtain⟨J,aj⟩:∃ J,(w.alloc (.cells #[.string ⟨#[]⟩,.string ⟨#[]⟩,.int .i64 0,.string ⟨#[]⟩,.slice none 0 0] 86)).alloc (.cells #[.string ⟨#[]⟩,.int .i64 0,.int .i64 0] 132)=J:=⟨_,rfl⟩
 have S0:Hid (xM w J a hi l n m):=by rw[<-aj];exact xM.start hG h _ _
 have z0:J.heap.size=w.heap.size+2:=by rw[<-aj];simp
 obtain⟨b,off,c,T,p,k,hT,h2⟩:=S0.pr.cells;have HT:=fH hT;obtain⟨c0,c1,f0,f1,K,t1,ne,m1,mc,cz,tz⟩:=k;clear h h2 hT;obtain⟨W1,ai⟩:∃ W1,J.alloc (.cells #[.string T,.int .i64 p] 186)=W1:=⟨_,rfl⟩
 have S1:Hid (xM w W1 a hi l n m):=by rw[<-ai];exact S0.below (bR.alloc lr _)
 have K1:Hid (fV W1 J.heap.size [.string T,.int .i64 p]):=by rw[<-ai];exact fV.new J [.string T,.int .i64 p] _
 have ak:=fH z0;clear S0 hG z0;go_in;go_upto_region 2 with(fail)
 clear aj ai c0 c1 f0 f1 K t1 ne m1 mc cz;have ha:=S1.alt;have k1:=S1.pr.cells;obtain⟨b1,aC,aH,T',p',k1,-,-⟩:=k1;have c1:=k1.c1;have f1:=k1.f1;have K:=K1.cell 0 _ rfl;have t1:=K1.cell 1 _ rfl;clear k1;by_cases Y:n=64
 ·have EN:Hid (mu n l=none):=by show _=_;rw[Y];exact U6 l
  have aB:((n:Int)==64)=true:=by simp[Y]
  clear Y;go_wp2_with fail;refine mb (lP T p 4 _) ?_;rintro w2 V;have F:=fH (S1.below V);have X:=F.two.c;obtain⟨x0,x1,x2,x3,x4,y0,y1,y2,g0,g1,g2,g3,g4,k0,k1,k2⟩:=X;clear V;unfold lF;go_wp2_with fail;refine bodyPost_ret (rX _ F.two.c rfl rfl _ _ _ _ _ _ _ _ ⟨rfl,rfl,rfl,rfl,rfl,rfl,rfl,rfl⟩) rfl ?_;exact ju.no EN (jw F.gr lr _ _ _ _ _ _ _ _) (by decide)
 have ap:Hid (n<64):=by show _<_;omega
 have aB:((n:Int)==64)=false:=by simp;omega
 have EN:Hid (mu n l=if kA (bl T) then qy (bl T) (n+1) (gY l) else none):=by
  show _=_;unfold mu;rw[if_neg Y,HT.out]
 clear Y;go_wp2_with fail;refine mb (uO T _ (by omega)) ?_;rintro w2 rfl;cases hnm:kA (bl T) with
 | false=>
  rw[hnm] at EN;clear hnm;go_wp2_with fail;refine mb (lP T p 10 _) ?_;rintro w2 V;have F:=fH (S1.below V);have X:=F.two.c;obtain⟨x0,x1,x2,x3,x4,y0,y1,y2,g0,g1,g2,g3,g4,k0,k1,k2⟩:=X;clear V;unfold lF;go_wp2_with fail;refine bodyPost_ret (rX _ F.two.c rfl rfl _ _ _ _ _ _ _ _ ⟨rfl,rfl,rfl,rfl,rfl,rfl,rfl,rfl⟩) rfl ?_;exact ju.no EN (jw F.gr lr _ _ _ _ _ _ _ _) (by decide)
 | true=>
 have ER:Hid (mu n l=qy (bl T) (n+1) (gY l)):=by have:=EN.out;rwa [hnm,if_pos rfl] at this
 clear EN;have an:=fH hnm;have HL:Hid (gJ l≠[]):=by have:=rV hnm;rw[<-fI,HT.out] at this;intro e;rw[e] at this;simp at this
 have P2:Hid (PR (W1.setCell ⟨a,1,none⟩ (.int .i64 ((n:Int)+1))) a hi l (n+1) m):=by have:=S1.pr.count (n+1);rwa [show((n+1:Nat):Int)=(n:Int)+1 from by omega] at this
 have F:=fH (S1.step (gU (j:=1) (.int .i64 ((n:Int)+1))) P2);have K2:=fH (K1.stay S1 (by have:=ak.out;omega) (gU (a:=a) (j:=1) (.int .i64 ((n:Int)+1))));clear hnm;go_wp2_with fail;clear c1 f1 K t1;refine(oL a hi (n+1) m l _ P2 HL).mono ?_;rintro e M ⟨rfl,hp,O,Z⟩;have S3:=fH (F.step O hp);have K3:=fH (K2.stay F (by have:=ak.out;omega) O);have M2:=fH Z;clear hp O P2 F K2 Z;have K:=K3.cell 0 _ rfl;go_upto_region 9 with(fail)
 clear K;obtain⟨W4,ac⟩:∃ W4,M.alloc (.cells #[.string ⟨#[]⟩,.string T,.int .i64 0,.string ⟨#[]⟩,.slice none 0 0] 86)=W4:=⟨_,rfl⟩
 have B4:Hid (Bw M W4):=by rw[<-ac];exact bR.alloc lr _
 have D4:Hid (fV W4 M.heap.size [.string ⟨#[]⟩,.string T,.int .i64 0,.string ⟨#[]⟩,.slice none 0 0]):=by rw[<-ac];exact fV.new M [.string ⟨#[]⟩,.string T,.int .i64 0,.string ⟨#[]⟩,.slice none 0 0] _
 have R:=fH (S3.below B4);have K4:=fH (K3.below B4);have H3:Hid (J.heap.size<M.heap.size):=K3.sz;rw[ac];clear ac;obtain⟨b4,aE,c4,T4,p4,k4,ar,-⟩:=R.pr.cells;have ab:=fH ar;obtain⟨r0,r1,r2,r3,r4,r5,r6,r7,r8,r9,aF⟩:=k4;have hR:=Hh T4 W4 R.gl.gl;obtain⟨o,ho⟩:∃ o,MK (bl T4)=o:=⟨_,rfl⟩
 rw[ho] at hR;have HO:=fH ho;have ay:o<=5:=by rw[<-ho];exact acm _
 clear ar ho S3 B4;go_wp2_with fail;clear r0 r1 r2 r3 r4 r5 r6 r7 r8 r9;refine hR.mono ?_;rintro e w5 ⟨rfl,rfl⟩;clear hR;by_cases o0:o=0
 ·have EY:Hid (mu n l=some ((fL.mk ⟨#[]⟩ T 0 ⟨#[]⟩ none 0 []).pl,gY l,n+1)):=by
   show _=_;rw[ER.out,Cm _ _ _ _ _ _ _ rfl];exact XW (by rw[<-ab.out,HO.out,o0])
  have q0:((o:Int)==0)=true:=by simp[o0]
  have X:=R.two.c;obtain⟨x0,x1,x2,x3,x4,y0,y1,y2,g0,g1,g2,g3,g4,k0,k1,k2⟩:=X;obtain⟨d0,d1,d2,d3,d4⟩:=rF D4.cell;clear o0;go_wp2_with fail;refine bodyPost_ret (rX _ R.two.c rfl rfl _ _ _ _ _ _ _ _ ⟨rfl,rfl,rfl,rfl,rfl,rfl,rfl,rfl⟩) rfl ?_;exact ju.yes (T:=.mk ⟨#[]⟩ T 0 ⟨#[]⟩ none 0 []) EY (jw R.gr lr _ _ _ _ _ _ _ _) (.atom T 0 ⟨#[]⟩ an (by omega) (fun _=>rfl) (fun h=>by omega)) (Ei _ _ _ _ _ _) (by simp[fL.ht,IJ];exact hd) (by simp[fL.cnt]) (by have:=ap.out;omega) (Co R.pr R.lt _ _ _ _ _ _ _ _) (by have:=M2.out;omega)
 have q0:((o:Int)==0)=false:=by simp[o0]
 have am:Hid (gJ (gY l)≠[]):=by show ¬ _;rw[<-ab.out];exact XY (by rw[HO.out];exact o0)
 have EV:Hid (mu n l=pC (bl T) o (n+1) (gY (gY l))):=by show _=_;rw[ER.out,aap (by rw[<-ab.out,HO.out];exact o0),<-ab.out,HO.out]
 have OP:Hid (0<o):=by show _<_;omega
 have I:Hid (w.heap.size+2<=J.heap.size):=by show _<=_;have:=ak.out;omega
 clear ER o0 HO ab;go_wp2_with fail;refine(oL a hi (n+1) (m-1) (gY l) _ R.pr am).mono ?_;rintro e w5 ⟨rfl,hp,O,Z⟩;have S5:=fH (R.step O hp);have K5:=fH (K4.stay R (by have:=I.out;omega) O);have D5:=fH (D4.stay R (by have:=I.out;have:=H3.out;omega) O);have M3:=fH Z;clear hp O Z R K4 D4 am;have K:=K5.cell 0 _ rfl;have t1:=K5.cell 1 _ rfl;have e0:=K5.free 0 (by simp);have e1:=K5.free 1 (by simp);obtain⟨b5,aD,c5,z,p5,k5,ao,az⟩:=S5.pr.cells;have aa:=fH ao;obtain⟨r0,r1,r2,r3,r4,r5,r6,r7,r8,r9,aG⟩:=k5;clear ao az;go_upto_region 14 with(fail)
 clear K t1 e0 e1 r0 r1 r2 r3 r4 r5 r6 r7 r8 r9;obtain⟨W6,U⟩:∃ W6,(w5.setCell ⟨J.heap.size,0,none⟩ (.string z)).setCell ⟨J.heap.size,1,none⟩ (.int .i64 p5)=W6:=⟨_,rfl⟩
 have S6:Hid (xM w W6 a hi (gY (gY l)) (n+1) (m-1-1)):=by rw[<-U];exact(S5.far I _).far I _
 have K6:Hid (fV W6 J.heap.size [.string z,.int .i64 p5]):=by rw[<-U];exact(K5.set 0 (by simp) (.string z)).set 1 (by simp) (.int .i64 p5)
 have D6:Hid (fV W6 M.heap.size [.string ⟨#[]⟩,.string T,.int .i64 0,.string ⟨#[]⟩,.slice none 0 0]):=by rw[<-U];exact(D5.far (by have:=H3.out;omega) _).far (by have:=H3.out;omega) _
 rw[U];clear U S5 K5 D5;have K:=K6.cell 0 _ rfl;have t1:=K6.cell 1 _ rfl;obtain⟨bb,D⟩:∃ bb:Bool,decide (bl z=[]\/bl z=[40]\/bl z=[41])=bb:=⟨_,rfl⟩
 go_cut [74] (fun v wx=>v=.bool bb/\W6=wx)
 case first=>
  by_cases h1:bl z=[]
  ·have E1:z.toList=[]:=by rw[fK];exact h1
   have E2:Hid (bb=true):=by show _=_;rw[<-D];exact dT (.inl h1)
   clear D h1;go_wp2;go_meet;exact⟨by rw[E2.out],rfl⟩
  by_cases h2:bl z=[40]
  ·have E1:z.toList=[40]:=by rw[fK];exact h2
   have E2:Hid (bb=true):=by show _=_;rw[<-D];exact dT (.inr (.inl h2))
   clear D h1 h2;go_wp2;go_meet;exact⟨by rw[E2.out],rfl⟩
  by_cases h3:bl z=[41]
  ·have E1:z.toList=[41]:=by rw[fK];exact h3
   have E2:Hid (bb=true):=by show _=_;rw[<-D];exact dT (.inr (.inr h3))
   clear D h1 h2 h3;go_wp2;go_meet;exact⟨by rw[E2.out],rfl⟩
  ·have E1:(z.toList==([]:LU))=false:=by rw[fK,bF];exact h1
   have E3:(z.toList==([40]:LU))=false:=by rw[fK,bF];exact h2
   have E4:(z.toList==([41]:LU))=false:=by rw[fK,bF];exact h3
   have E5:z.toList.isEmpty=false:=by rw[fK,List.isEmpty_eq_false_iff];exact h1
   have E2:Hid (bb=false):=by show _=_;rw[<-D];exact dF (by rintro(h | h | h)<;>contradiction)
   clear D h1 h2 h3;go_wp2;go_meet;exact⟨by rw[E2.out],rfl⟩
 case rest=>
 obtain⟨rfl,rfl⟩:=hcut;cases bb with
 | true=>
  have EN:Hid (mu n l=none):=by show _=_;rw[EV.out];exact Qq (by rw[<-aa.out];exact dO D)
  clear D;go_wp2_with fail;refine mb (lP z p5 3 _) ?_;rintro w2 V;have F:=fH (S6.below V);have X:=F.two.c;obtain⟨x0,x1,x2,x3,x4,y0,y1,y2,g0,g1,g2,g3,g4,k0,k1,k2⟩:=X;clear V;unfold lF;go_wp2_with fail;refine bodyPost_ret (rX _ F.two.c rfl rfl _ _ _ _ _ _ _ _ ⟨rfl,rfl,rfl,rfl,rfl,rfl,rfl,rfl⟩) rfl ?_;exact ju.no EN (jw F.gr lr _ _ _ _ _ _ _ _) (by decide)
 | false=>
 have HB:Hid (¬ (gJ (gY (gY l))=[]\/gJ (gY (gY l))=[40]\/gJ (gY (gY l))=[41])):=by rw[<-aa.out];exact of_decide_eq_false D
 clear D;obtain⟨ve,ag⟩:∃ ve,gL 2 z=ve:=⟨_,rfl⟩
 have HV:=fH ag;have ah:=gP 2 z W6 S6.gl.gl (by omega);rw[ag] at ah;clear ag;go_wp2_with fail;clear K t1;refine ah.mono ?_;rintro e w7 ⟨rfl,ae⟩;have S7:=fH (S6.below ae);have K7:=fH (K6.below ae);have D7:=fH (D6.below ae);have K:=K7.cell 0 _ rfl;have t1:=K7.cell 1 _ rfl;clear ae ah S6 K6 D6;by_cases H:ve=0
 ·have q1:(ve != 0)=false:=by simp[H]
  have EY:Hid (mu n l=some ((fL.mk ⟨#[]⟩ T o z none 0 []).pl,gY (gY (gY l)),n+1)):=by
   show _=_;rw[EV.out,Cm _ _ _ _ _ _ _ rfl,XX HB.out (by rw[<-aa.out,nF,HV.out,H]),aa.out]
  have VZ:Hid (gL 2 z=0):=by show _=_;rw[HV.out,H]
  have aA:Hid (gJ (gY (gY l))≠[]):=fun e=>HB.out (.inl e);clear H;go_wp2_with fail;refine(oL a hi (n+1) (m-1-1) (gY (gY l)) _ S7.pr aA).mono ?_;rintro e w8 ⟨rfl,hp,O,aq⟩;have S8:=fH (S7.step O hp);have K8:=fH (K7.stay S7 (by have:=I.out;omega) O);have D8:=fH (D7.stay S7 (by have:=I.out;have:=H3.out;omega) O);have M4:=fH aq;clear hp O aq S7 K7 D7 K t1;have K:=K8.cell 0 _ rfl;obtain⟨d0,d1,d2,d3,d4⟩:=rF D8.cell;have h2:=D8.free 2 (by simp);have h3:=D8.free 3 (by simp);have ax:¬ J.heap.size=M.heap.size:=by have:=H3.out;omega
  have au:¬ M.heap.size=J.heap.size:=by have:=H3.out;omega
  go_wp2;go_region;clear K d0 d1 d2 d3 d4 h2 h3 ax au;obtain⟨W9,ad⟩:∃ W9,((w8.setCell ⟨M.heap.size,2,none⟩ (.int .i64 o)).setCell ⟨M.heap.size,3,none⟩ (.string z)).drew=W9:=⟨_,rfl⟩
  have al:w.heap.size+2<=M.heap.size:=by have:=H3.out;have:=I.out;omega
  have S9:Hid (xM w W9 a hi (gY (gY (gY l))) (n+1) (m-1-1-1)):=by rw[<-ad];exact((S8.far al _).far al _).below ⟨rfl,rfl,rfl,lr,fun _ _=>rfl⟩
  have D9:Hid (fV W9 M.heap.size [.string ⟨#[]⟩,.string T,.int .i64 o,.string z,.slice none 0 0]):=by rw[<-ad];exact((D8.set 2 (by simp) (.int .i64 o)).set 3 (by simp) (.string z)).drew
  rw[ad];clear ad S8 K8 D8;have X:=S9.two.c;obtain⟨x0,x1,x2,x3,x4,y0,y1,y2,g0,g1,g2,g3,g4,k0,k1,k2⟩:=X;obtain⟨d0,d1,d2,d3,d4⟩:=rF D9.cell;go_wp2_with fail;refine bodyPost_ret (rX _ S9.two.c rfl rfl _ _ _ _ _ _ _ _ ⟨rfl,rfl,rfl,rfl,rfl,rfl,rfl,rfl⟩) rfl ?_;exact ju.yes (T:=.mk ⟨#[]⟩ T o z none 0 []) EY (jw S9.gr lr _ _ _ _ _ _ _ _) (.atom T o z an ay (fun h=>by have:=OP.out;omega) (fun _=>VZ.out)) (Ei _ _ _ _ _ _) (by simp[fL.ht,IJ];exact hd) (by simp[fL.cnt]) (by have:=ap.out;omega) (Co S9.pr S9.lt _ _ _ _ _ _ _ _) (by have:=M2.out;omega)
 ·have q1:(ve != 0)=true:=by simp[H]
  have EN:Hid (mu n l=none):=by show _=_;rw[EV.out];exact MW (by rw[<-aa.out,nF,HV.out];exact H)
  have av:=GG.mk H;clear H;go_wp2_with fail;refine mb (lP z p5 ve _) ?_;rintro w2 V;have F:=fH (S7.below V);have X:=F.two.c;obtain⟨x0,x1,x2,x3,x4,y0,y1,y2,g0,g1,g2,g3,g4,k0,k1,k2⟩:=X;clear V;unfold lF;go_wp2_with fail;refine bodyPost_ret (rX _ F.two.c rfl rfl _ _ _ _ _ _ _ _ ⟨rfl,rfl,rfl,rfl,rfl,rfl,rfl,rfl⟩) rfl ?_;exact ju.no EN (jw F.gr lr _ _ _ _ _ _ _ _) av.out
end
theorem KH {p:UInt8->Bool}{w:LU}(D:w≠[])(z:w.all p=true)(F:∀ x,r.head?=some x->p x=false):tt p (w++r)=some (w,r):=by
 have h:=sg z F;have H:0<w.length:=List.length_pos_iff.2 D;unfold tt;rw[h,if_neg (by omega),List.take_left,List.drop_left]
theorem qa (h:hH l=true){x:UInt8}(z:x∈l):(pP x || [43,46,45].contains x)=true:=by
 unfold hH sH at h;simp only[Bool.and_eq_true] at h;exact List.all_eq_true.1 h.2.1 x z
theorem oP (h:hH l=true):∃ a r,l=a::r/\pP a=true:=by
 unfold hH sH at h;simp only[Bool.and_eq_true] at h;cases l with
 | nil=>simp[sG] at h
 | cons a r=>exact⟨a,r,rfl,h.2.2⟩
theorem sh (h:hH l=true):2<=l.length/\l.length<=64:=by
 unfold hH at h;simp only[Bool.and_eq_true,decide_eq_true_eq] at h;exact⟨h.1.1,h.1.2⟩
theorem qE (x:UInt8)(h:(pP x || [43,46,45].contains x)=true):Ml x=false/\GM x=false/\gT x=false/\x≠33/\x≠32/\x≠40/\x≠41:=by
 have:=kf (fun x=>!(pP x || [43,46,45].contains x)||(!Ml x && !GM x && !gT x && !(x==33) && !(x==32) && !(x==40) && !(x==41))) (by kernel_rfl) x;simp only[h,Bool.not_true,Bool.false_or,Bool.and_eq_true,Bool.not_eq_true',bF,ne_eq] at this;exact⟨this.1.1.1.1.1.1,this.1.1.1.1.1.2,this.1.1.1.1.2,this.1.1.1.2,this.1.1.2,this.1.2,this.2⟩
theorem IZ (x:UInt8)(h:pP x=true):Ml x=false/\GM x=false/\gT x=false/\x≠33/\x≠32/\x≠40/\x≠41:=qE x (by rw[h];rfl)
structure iU.bare (t:iU):Prop where
 name:hH t.name=true
 qual:t.qual=[]
 archs:t.archs=[]
 op:t.op<=5
 none:t.op=0->t.ver=[]
 ver:t.op≠0->gL 1 (gX t.ver)=0/\t.ver≠[]/\∀ x∈t.ver,Mk x=false
def SI (r:LU):Prop:=r=[]\/(∃ q,r=44::q)\/∃ q,r=32::124::q
theorem Vp (h:SI r):∀ x,r.head?=some x->Ml x=true/\x≠58:=by
 intro x z;rcases h with rfl | ⟨q,rfl⟩ | ⟨q,rfl⟩
 ·simp at z
 ·simp only[List.head?_cons,Option.some.injEq] at z;subst z;decide
 ·simp only[List.head?_cons,Option.some.injEq] at z;subst z;decide
theorem Vq (h:SI r):fY 40 (gm r)=false/\fY 91 (gm r)=false/\fY 58 r=false:=by
 rcases h with rfl | ⟨q,rfl⟩ | ⟨q,rfl⟩
 ·exact⟨rfl,rfl,rfl⟩
 ·rw[kh (by decide)];exact⟨rfl,rfl,rfl⟩
 ·rw[mG,kh (by decide)];exact⟨rfl,rfl,rfl⟩
theorem acv {op:Nat}(D:op≠0)(z:op<=5)(r:LU):Au (Mm op++32::r)=(op,32::r):=by
 rcases(by omega:op=1\/op=2\/op=3\/op=4\/op=5) with rfl | rfl | rfl | rfl | rfl<;>simp[Mm,Au,fY]
theorem aaA {op:Nat}(D:op≠0)(z:op<=5)(r:LU):gm (Mm op++r)=Mm op++r:=by
 rcases(by omega:op=1\/op=2\/op=3\/op=4\/op=5) with rfl | rfl | rfl | rfl | rfl<;>exact kh (by decide)
theorem KJ {p:UInt8->Bool}(h:∀ x∈l,p x=false):l.all (fun x=>!p x)=true:=by
 rw[List.all_eq_true];intro x z;rw[h x z];rfl
theorem EK {t:iU}(h:t.bare)(hR:SI R):mX (t.text++R)=some (t,gm R):=by
 obtain⟨nm,q,op,v,ar⟩:=t;obtain⟨X,h2,h3,V,h5,h6⟩:=h;simp only at X h2 h3 V h5 h6;subst h2 h3;obtain⟨a,r,ea,_⟩:=oP X;have I:nm≠[]:=by rw[ea];simp
 have D:nm.all vC=true:=KJ (p:=Ml) fun x z=>(qE x (qa X z)).1;obtain⟨O,K,ab⟩:=Vq hR;by_cases F:op=0
 ·obtain rfl:=h5 F;subst F;have e:(iU.mk nm [] 0 [] []).text++R=nm++R:=by simp[iU.text]
  have ht:=KH I D (r:=R) (fun x z=>by show(!Ml x)=false;rw[(Vp hR x z).1];rfl);rw[e];unfold mX;rw[ht];simp only;have U:pj R=some ([],R):=by unfold pj;rw[ab];rfl
  have Y:oA (gm R)=some (0,[],gm R):=by unfold oA;rw[O];rfl
  have Z:nf (gm R)=some ([],gm R):=by unfold nf;rw[K];rfl
  simp only[U,Y,Z]
 ·obtain⟨hv,J,H⟩:=h6 F;have e:(iU.mk nm [] op v []).text++R=nm++(32::40::(Mm op++32::(v++41::R))):=by simp[iU.text,F]
  have ht:=KH I D (r:=32::40::(Mm op++32::(v++41::R))) (fun x z=>by simp only[List.head?_cons,Option.some.injEq] at z;subst z;rfl);have M:tt tT (v++41::R)=some (v,41::R):=KH J (KJ (p:=Mk) H) (fun x z=>by simp only[List.head?_cons,Option.some.injEq] at z;subst z;rfl);have aa:gm (32::(v++41::R))=v++41::R:=by
   rw[mG];cases v with
   | nil=>exact absurd rfl J
   | cons b w=>
    have:=H b (by simp);exact kh (by unfold Mk at this;simp only[Bool.or_eq_false_iff] at this;exact this.1.1.1.1.1.1)
  rw[e];unfold mX;rw[ht];simp only;have U:pj (32::40::(Mm op++32::(v++41::R)))=some ([],32::40::(Mm op++32::(v++41::R))):=by unfold pj;rfl
  have hs:gm (32::40::(Mm op++32::(v++41::R)))=40::(Mm op++32::(v++41::R)):=by rw[mG,kh (by decide)]
  have Y:oA (40::(Mm op++32::(v++41::R)))=some (op,v,gm R):=by
   unfold oA;simp only[fY,List.drop_succ_cons,List.drop_zero];rw[if_pos (by rfl)];unfold Dc;rw[aaA F V,acv F V];unfold jn;rw[if_neg F,aa,M];simp only;unfold re;rw[kh (by decide)];rfl
  have Z:nf (gm R)=some ([],gm R):=by unfold nf;rw[K];rfl
  simp only[U,hs,Y,Z]
theorem om (x y:LU)(r:List (LU))(z:LU):Lib.join (x::y::r) z=x++z++Lib.join (y::r) z:=by
 simp[Lib.join,List.intercalate]
theorem zB {t:iU}(h:t.bare):∃ a r,t.text=a::r/\(a==32)=false:=by
 obtain⟨a,r,e,z⟩:=oP h.name;refine⟨a,_,by unfold iU.text;rw[e];simp only[List.cons_append];rfl,by simpa using(IZ a z).2.2.2.2.1⟩
theorem EO {t:iU}{ts:List iU}(h:t.bare)(z:LU):∃ a r,Lib.join ((t::ts).map iU.text) z=a::r/\(a==32)=false:=by
 obtain⟨a,r,e,D⟩:=zB h;cases ts with
 | nil=>exact⟨a,r,by rw[List.map_singleton,Lib.join_one,e],D⟩
 | cons u us=>exact⟨a,_,by rw[List.map_cons,List.map_cons,om,e];simp only[List.cons_append];rfl,D⟩
theorem zC:∀ (ts:List iU)(z:LU),(∀ t∈ts,t.bare)->ts.length<=(Lib.join (ts.map iU.text) z).length
 | [],_,_=>by simp
 | [t],z,h=>by
  obtain⟨a,r,e,_⟩:=zB (h t (by simp));rw[List.map_singleton,Lib.join_one,e];simp
 | t::u::us,z,h=>by
  obtain⟨a,r,e,_⟩:=zB (h t (by simp));have:=zC (u::us) z (fun x D=>h x (List.mem_cons_of_mem _ D));rw[List.map_cons,List.map_cons,om,e];rw[List.map_cons] at this;simp only[List.length_append,List.length_cons] at this |-;omega
def abR (r:LU):Prop:=r=[]\/∃ q,r=44::q
theorem QE (h:abR r):gm r=r/\fY 124 r=false/\SI r:=by
 rcases h with rfl | ⟨q,rfl⟩
 ·exact⟨rfl,rfl,.inl rfl⟩
 ·exact⟨kh (by decide),rfl,.inr (.inl ⟨q,rfl⟩)⟩
theorem uh:∀ (ts:List iU)(f:Nat)(R:LU),ts≠[]->ts.length<=f->(∀ t∈ts,t.bare)->abR R->ld f (Lib.join (ts.map iU.text) [32,124,32]++R)=some (ts,R)
 | [],_,_,h,_,_,_=>absurd rfl h
 | _::_,0,_,_,h,_,_=>by simp at h
 | [t],f+1,R,_,_,h,hR=>by
  obtain⟨K,H,z⟩:=QE hR;rw[List.map_singleton,Lib.join_one];unfold ld;rw[EK (h t (by simp)) z];simp only[K,H];rfl
 | t::u::us,f+1,R,_,hf,h,hR=>by
  have I:=uh (u::us) f R (by simp) (by simp at hf |-;omega) (fun x O=>h x (List.mem_cons_of_mem _ O)) hR;obtain⟨a,r,e,J⟩:=EO (ts:=us) (h u (by simp)) [32,124,32];have D:Lib.join ((t::u::us).map iU.text) [32,124,32]++R=t.text++(32::124::32::(Lib.join ((u::us).map iU.text) [32,124,32]++R)):=by
   rw[List.map_cons,List.map_cons,om];simp
  rw[D];unfold ld;rw[EK (h t (by simp)) (.inr (.inr ⟨_,rfl⟩))];have M:gm (32::124::32::(Lib.join ((u::us).map iU.text) [32,124,32]++R))=124::32::(Lib.join ((u::us).map iU.text) [32,124,32]++R):=by rw[mG,kh (by decide)]
  have F:gm (32::(Lib.join ((u::us).map iU.text) [32,124,32]++R))=Lib.join ((u::us).map iU.text) [32,124,32]++R:=by rw[mG,e,List.cons_append,kh J]
  simp only[M];rw[if_pos (by rfl),List.drop_succ_cons,List.drop_zero,F,I];rfl
def KL (g:List iU):LU:=Lib.join (g.map iU.text) [32,124,32]
theorem mS (L:List (List iU)):jQ L=Lib.join (L.map KL) [44,32]:=rfl
theorem zD {g:List iU}(z:g≠[])(h:∀ t∈g,t.bare):∃ a r,KL g=a::r/\(a==32)=false:=by
 cases g with
 | nil=>exact absurd rfl z
 | cons t ts=>exact EO (h t (by simp)) _
theorem xW:∀ (L:List (List iU))(f:Nat),L≠[]->L.length<=f->(∀ g∈L,g≠[]/\∀ t∈g,t.bare)->mt f (jQ L)=some L
 | [],_,h,_,_=>absurd rfl h
 | _::_,0,_,h,_=>by simp at h
 | [g],f+1,_,_,h=>by
  have z:=h g (by simp);have J:=zC g [32,124,32] z.2;have:=uh g ((KL g).length+1) [] z.1 (by unfold KL;omega) z.2 (.inl rfl);rw[List.append_nil] at this;rw[mS,List.map_singleton,Lib.join_one];unfold mt;rw[show Lib.join (g.map iU.text) [32,124,32]=KL g from rfl] at this;rw[this];rfl
 | g::g2::L,f+1,_,hf,h=>by
  have z:=h g (by simp);have I:=xW (g2::L) f (by simp) (by simp at hf |-;omega) (fun x R=>h x (List.mem_cons_of_mem _ R));have F:jQ (g::g2::L)=KL g++44::32::jQ (g2::L):=by
   rw[mS,mS,List.map_cons,List.map_cons,om];simp
  have J:=zC g [32,124,32] z.2;have:=uh g ((KL g++44::32::jQ (g2::L)).length+1) (44::32::jQ (g2::L)) z.1 (by rw[List.length_append];unfold KL;omega) z.2 (.inr ⟨_,rfl⟩);have H:gm (32::jQ (g2::L))=jQ (g2::L):=by
   have D:=h g2 (by simp);obtain⟨a,r,e,K⟩:=zD D.1 D.2;have:∃ q,jQ (g2::L)=a::q:=by
    cases L with
    | nil=>exact⟨r,by rw[mS,List.map_singleton,Lib.join_one,e]⟩
    | cons g3 M=>exact⟨_,by rw[mS,List.map_cons,List.map_cons,om,e];simp only[List.cons_append];rfl⟩
   obtain⟨q,O⟩:=this;rw[mG,O,kh K]
  rw[F];unfold mt;rw[show Lib.join (g.map iU.text) [32,124,32]=KL g from rfl] at this;rw[this];simp only[List.isEmpty_cons,Bool.false_eq_true,if_false];rw[if_pos (by rfl),List.drop_succ_cons,List.drop_zero,H,I];rfl
theorem zE:∀ (L:List (List iU)),(∀ g∈L,g≠[]/\∀ t∈g,t.bare)->L.length<=(jQ L).length
 | [],_=>by simp
 | [g],h=>by
  obtain⟨a,r,e,_⟩:=zD (h g (by simp)).1 (h g (by simp)).2;rw[mS,List.map_singleton,Lib.join_one,e];simp
 | g::g2::L,h=>by
  have:=zE (g2::L) (fun x z=>h x (List.mem_cons_of_mem _ z));rw[mS] at this |-;rw[List.map_cons,List.map_cons,om];rw[List.map_cons] at this;simp only[List.length_append,List.length_cons] at this |-;omega
theorem AN {L:List (List iU)}(F:L≠[])(h:∀ g∈L,g≠[]/\∀ t∈g,t.bare)(U:(L.map List.length).sum<=64):jV (jQ L)=some L:=by
 obtain⟨g,M,rfl⟩:∃ g M,L=g::M:=by cases L with | nil=>exact absurd rfl F | cons g M=>exact⟨g,M,rfl⟩
 have K:=h g (by simp);obtain⟨a,r,e,H⟩:=zD K.1 K.2;have V:∃ q,jQ (g::M)=a::q:=by
  cases M with
  | nil=>exact⟨r,by rw[mS,List.map_singleton,Lib.join_one,e]⟩
  | cons g3 M=>exact⟨_,by rw[mS,List.map_cons,List.map_cons,om,e];simp only[List.cons_append];rfl⟩
 obtain⟨q,I⟩:=V;have R:gm (jQ (g::M))=jQ (g::M):=by rw[I,kh H]
 have D:=xW (g::M) ((jQ (g::M)).length+1) (by simp) (by have:=zE (g::M) h;omega) h;have O:rN (jQ (g::M))=some (g::M):=by
  unfold rN;rw[R,D,I];rfl
 have H:Bn (g::M)=true:=by
  unfold Bn;rw[dT U,Bool.and_true,List.all_eq_true];intro x X;rw[List.all_eq_true];intro t ht;have z:=(h x X).2 t ht;unfold iU.right;rw[z.name,z.qual,z.archs];by_cases J:t.op=0
  ·rw[dT J];rfl
  ·rw[dT (z.ver J).1];simp
 unfold jV;rw[O];simp[H]
theorem Cs (h:hH l=true):kA l=true:=by
 obtain⟨K,D⟩:=sh h;obtain⟨a,r,e,I⟩:=oP h;have key:∀ x,(pP x || [43,46,45].contains x)=true->jz (some 0) x=some 0:=by
  intro x F;have:=kf (fun x=>!(pP x || [43,46,45].contains x)||(!(x==40) && !(x==41)&&lM x)) (by kernel_rfl) x;simp only[F,Bool.not_true,Bool.false_or,Bool.and_eq_true,Bool.not_eq_true'] at this;unfold jz;simp only[this.1.1,this.1.2,this.2];rfl
 have H:∀ (w:LU),(∀ x∈w,(pP x || [43,46,45].contains x)=true)->w.foldl jz (some 0)=some 0:=by
  intro w
  induction w with
  | nil=>intro _;rfl
  | cons x t ih=>intro z;rw[List.foldl_cons,key x (z x (by simp))];exact ih (fun y J=>z y (List.mem_cons_of_mem _ J))
 have z:Az l=true:=by
  rw[e];have:=kf (fun x=>!pP x||wj x) (by kernel_rfl) a;rw[I] at this;exact this
 unfold kA;rw[H l (fun x F=>qa h F),z,dT ⟨by omega,D⟩];rfl
theorem Ct (h:hH l=true):jU l=true:=by
 obtain⟨K,D⟩:=sh h;obtain⟨a,r,e,H⟩:=oP h;have z:l.all nS=true:=by
  rw[List.all_eq_true];intro x J;have I:=qa h J;have:=kf (fun x=>!(pP x || [43,46,45].contains x)||nS x) (by kernel_rfl) x;rw[I] at this;exact this
 have F:pu a=true:=by
  have:=kf (fun x=>!pP x||pu x) (by kernel_rfl) a;simpa [H] using this
 unfold jU;rw[z,dT ⟨by omega,D⟩,e];simp[F]
def I3 (w:LU):Prop:=∀ x∈w,(x==32)=false/\(x==40)=false/\(x==41)=false
def I4 (r:LU):Prop:=r=[]\/(∃ q,r=32::q)\/∃ q,r=41::q
theorem I7:∀ (w:LU){r:LU},I3 w->I4 r->oy 0 (w++r)=w.length
 | [],r,_,hr=>by
  rcases hr with rfl | ⟨q,rfl⟩ | ⟨q,rfl⟩
  ·rfl
  ·rfl
  ·rfl
 | c::w,r,hw,hr=>by
  obtain⟨F,D,H⟩:=hw c (by simp);have z:=I7 w (fun x I=>hw x (List.mem_cons_of_mem _ I)) hr;rw[List.cons_append];unfold oy;rw[F,D,H,z];simp
theorem oQ {w:LU}(O:w≠[])(z:I3 w)(J:I4 r):gJ (w++r)=w/\gY (w++r)=r:=by
 have F:=I7 w z J;cases w with
 | nil=>exact absurd rfl O
 | cons c t=>
  obtain⟨D,I,K⟩:=z c (by simp);have H:xJ (gm (c::t++r))=(c::t).length:=by
   rw[List.cons_append,kh D,<-F];show(if XK c then 1 else oy 0 (c::(t++r)))=_;have:XK c=false:=by unfold XK;rw[I,K];rfl
   rw[this];rfl
  have M:gm (c::t++r)=c::t++r:=by rw[List.cons_append,kh D]
  unfold gJ gY;rw[H,M,List.take_left,List.drop_left];exact⟨rfl,rfl⟩
theorem ui {c:UInt8}(h:c=40\/c=41)(r:LU):gJ (c::r)=[c]/\gY (c::r)=r:=by
 unfold gJ gY;rcases h with rfl | rfl<;>rw[kh (by decide)]<;>exact⟨rfl,rfl⟩
theorem kq (l:LU):gJ (32::l)=gJ l/\gY (32::l)=gY l:=by
 unfold gJ gY;rw[mG];exact⟨rfl,rfl⟩
theorem Ns (n:Nat)(l:LU):mu n (32::l)=mu n l:=by
 unfold mu;rw[(kq l).1,(kq l).2]
theorem QF (f z n:Nat)(l:LU):lV f z n (32::l)=lV f z n l:=by
 cases f with
 | zero=>simp[lV]
 | succ f=>unfold lV;rw[(kq l).1,(kq l).2,Ns]
theorem QG (f z n:Nat)(D:List mQ)(op l:LU):nK f z n D op (32::l)=nK f z n D op l:=by
 cases f with
 | zero=>simp[nK]
 | succ f=>unfold nK;rw[QF]
inductive mQ.bare:mQ->Prop where
 | mk (nm:LU) (op:Nat) (v:LU) (h1:hH nm=true) (h2:op<=5) (h3:op=0->v=[]) (h4:op≠0->gL 2 (gX v)=0/\v≠[]/\I3 v):mQ.bare (.atom nm op v)
theorem I8 (h:hH l=true):l≠[]/\I3 l:=by
 obtain⟨a,r,e,_⟩:=oP h;refine⟨by rw[e];simp,fun x H=>?_⟩;obtain⟨_,_,_,_,D,z,F⟩:=qE x (qa h H);exact⟨by simpa using D,by simpa using z,by simpa using F⟩
theorem acw {op:Nat}(F:op≠0)(D:op<=5):MK (XM op)=op/\XM op≠[]/\I3 (XM op):=by
 rcases(by omega:op=1\/op=2\/op=3\/op=4\/op=5) with rfl | rfl | rfl | rfl | rfl
 all_goals
  refine⟨by decide,by decide,?_⟩;intro x z;simp only[XM,List.mem_cons,List.not_mem_nil,or_false] at z
  first
   | (subst z;decide)
   | (rcases z with rfl | rfl<;>decide)
def EP (r:LU):Prop:=I4 r/\MK (gJ r)=0
theorem QH {d:mQ}(h:d.bare)(hn:n<64)(K:EP R):mu n (ij d++R)=some (d,R,n+1)/\gJ (ij d++R)≠[]/\gJ (ij d++R)≠[40]/\gJ (ij d++R)≠[41]:=by
 obtain⟨nm,op,v,J,Y,h3,h4⟩:=h;obtain⟨z,O⟩:=I8 J;have H:=(sh J).1;have key:∀ q,I4 q->gJ (nm++q)≠[]/\gJ (nm++q)≠[40]/\gJ (nm++q)≠[41]:=by
  intro q Z;rw[(oQ z O Z).1];refine⟨z,?_,?_⟩<;>(intro e;rw[e] at H;simp at H)
 by_cases F:op=0
 ·obtain rfl:=h3 F;subst F;have e:ij (.atom nm 0 [])=nm:=by simp[ij]
  rw[e];refine⟨?_,key R K.1⟩;obtain⟨M,V⟩:=oQ z O K.1;unfold mu;rw[if_neg (by omega),M,V,Cs J,if_pos rfl];unfold qy;rw[if_pos K.2]
 ·obtain⟨hv,I,D⟩:=h4 F;obtain⟨o1,o2,o3⟩:=acw F Y;have e:ij (.atom nm op v)++R=nm++32::(XM op++32::(v++R)):=by simp[ij,F]
  rw[e];have ht:I4 (32::(XM op++32::(v++R))):=.inr (.inl ⟨_,rfl⟩);refine⟨?_,key _ ht⟩;obtain⟨M,V⟩:=oQ z O ht;have U:I4 (32::(v++R)):=.inr (.inl ⟨_,rfl⟩);obtain⟨m1,X⟩:=oQ o2 o3 U;obtain⟨v1,v2⟩:=oQ I D K.1;unfold mu;rw[if_neg (by omega),M,V,Cs J,if_pos rfl];unfold qy;rw[(kq _).1,(kq _).2,m1,X,o1,if_neg F];unfold pC;rw[(kq _).1,(kq _).2,v1,v2,if_neg,if_pos hv];rintro(e1 | e1 | e1)
  ·exact I e1
  ·have:=(D 40 (by rw[e1];simp)).2.1;revert this;decide
  ·have:=(D 41 (by rw[e1];simp)).2.2;revert this;decide
theorem zF {d:mQ}(h:d.bare)(K:n<64)(H:EP R)(f z:Nat):lV (f+1) z n (ij d++R)=some (d,R,n+1):=by
 obtain⟨I,D,J,F⟩:=QH h K H;unfold lV;rw[if_neg (by rintro(e | e);exact D e;exact F e),if_neg J,I]
theorem Vr:EP []:=⟨.inl rfl,rfl⟩
theorem Nt:EP [41]:=⟨.inr (.inr ⟨[],rfl⟩),by rw[(ui (.inr rfl) []).1];decide⟩
theorem KM (q:LU):gJ (32::111::114::32::q)=kT/\gY (32::111::114::32::q)=32::q:=by
 have D:I3 kT:=by
  intro x z;simp only[kT,List.mem_cons,List.not_mem_nil,or_false] at z;rcases z with rfl | rfl<;>decide
 have:=oQ (w:=kT) (by decide) D (r:=32::q) (.inr (.inl ⟨_,rfl⟩));rw[(kq _).1,(kq _).2];exact this
theorem Ym (q:LU):EP (32::111::114::32::q):=⟨.inr (.inl ⟨_,rfl⟩),by rw[(KM q).1];decide⟩
theorem Yn (i:Nat)(k:mQ)(r:List mQ):jM kT (i+1) (k::r)=32::111::114::32::(ij k++jM kT (i+2) r):=by
 have z:XN kT (i+1)=kT:=by
  unfold XN;rw[if_neg];rintro⟨_,h | h⟩<;>revert h<;>decide
 conv=>lhs;unfold jM
 rw[if_neg (by omega),z];simp[kT]
theorem I9:∀ (F:List mQ)(k:mQ)(i f D n:Nat)(z:List mQ),(k::F).length<=f->(∀ d∈k::F,d.bare)->n+(k::F).length<=64->(z≠[]\/F≠[]) ->
  nK (f+1) D n z (if z=[] then [] else kT) (ij k++(jM kT (i+1) F++[41]))=some (.node kT (z++k::F),[],n+(k::F).length)
 | [],k,i,0,D,n,z,hf,_,_,_=>by simp at hf
 | [],k,i,f+1,D,n,z,_,h,hn,H=>by
  have H:z≠[]:=by rcases H with h | h;exact h;exact absurd rfl h
  have e:jM kT (i+1) []++[41]=[41]:=by simp[jM]
  rw[e,if_neg H];unfold nK;rw[zF (h k (by simp)) (by simp at hn;omega) Nt];simp only;rw[(ui (.inr rfl) []).1,(ui (.inr rfl) []).2,if_pos ⟨rfl,H⟩];rfl
 | k2::F,k,i,0,D,n,z,hf,_,_,_=>by simp at hf
 | k2::F,k,i,f+1,D,n,z,hf,h,hn,_=>by
  have J:=I9 F k2 (i+1) f D (n+1) (z++[k]) (by simp at hf |-;omega) (fun d K=>h d (List.mem_cons_of_mem _ K)) (by simp at hn |-;omega) (.inl (by simp));have e:jM kT (i+1) (k2::F)++[41]=32::111::114::32::(ij k2++(jM kT (i+2) F++[41])):=by rw[Yn];simp
  rw[e];unfold nK;rw[zF (h k (by simp)) (by simp at hn;omega) (Ym _)];simp only;rw[(KM _).1,(KM _).2,if_neg (by rintro⟨h1,_⟩;revert h1;decide)];have I:gx (if z=[] then [] else kT) (z.length+1) kT=true:=by
   unfold gx;by_cases H:z=[]
   ·subst H;decide
   ·have:z.length≠0:=by intro O;exact H (List.eq_nil_of_length_eq_zero O)
    rw[if_neg (by omega),if_neg H];exact dT (.inl ⟨.inr rfl,rfl⟩)
  rw[if_pos I,QG];have M:(if z=[] then kT else if z=[] then [] else kT)=kT:=by split<;>simp_all
  rw[if_neg (by simp)] at J;rw[M,J];simp;omega
inductive mQ.flat:mQ->Prop where
 | one (d:mQ) (h:d.bare):mQ.flat d
 | some (k k2:mQ) (ks:List mQ) (h:∀ d∈k::k2::ks,d.bare) (hn:(k::k2::ks).length<=64):mQ.flat (.node kT (k::k2::ks))
theorem Ja:∀ (z:List mQ)(i:Nat),(∀ d∈z,d.bare)->z.length<=(jM kT i z).length
 | [],_,_=>by simp
 | k::r,i,h=>by
  have I:=Ja r (i+1) (fun d D=>h d (List.mem_cons_of_mem _ D));have H:0<(ij k).length:=by
   obtain⟨nm,op,v,F,_,_,_⟩:=h k (by simp);have:=(sh F).1;unfold ij;split
   ·omega
   ·simp only[List.length_append];omega
  conv=>rhs;unfold jM
  simp only[List.length_append,List.length_cons];omega
theorem uj {d:mQ}(h:d.flat):jt (ij d)=some d:=by
 unfold jt;cases h with
 | one d h=>
  have:=zF h (n:=0) (by omega) Vr (2*(ij d).length+1) 0;rw[List.append_nil] at this;rw[this];rfl
 | some k k2 ks h hn=>
  have e:ij (.node kT (k::k2::ks))=40::(ij k++(jM kT (0+1) (k2::ks)++[41])):=by
   simp[ij,jM]
  have z:(k2::ks).length<=(jM kT (0+1) (k2::ks)).length:=Ja (k2::ks) (0+1) (fun d D=>h d (List.mem_cons_of_mem _ D));have H:=I9 (k2::ks) k 0 (2*(ij (.node kT (k::k2::ks))).length) 1 0 [] (by rw[e];simp only[List.length_cons,List.length_append] at z |-;omega) h (by simpa using hn) (.inr (by simp));rw[if_pos rfl] at H;have D:lV (2*(ij (.node kT (k::k2::ks))).length+2) 0 0 (ij (.node kT (k::k2::ks)))=some (.node kT (k::k2::ks),[],0+(k::k2::ks).length):=by
   generalize 2*(ij (.node kT (k::k2::ks))).length=F at H;rw[e];unfold lV;rw[(ui (.inl rfl) _).1,(ui (.inl rfl) _).2,if_neg (by decide),if_pos rfl,if_neg (by omega)];exact H
  rw[D];rfl
structure jP.bare (x:jP):Prop where
 name:hH x.name=true
 op:x.op<=5
 none:x.op=0->x.ver=[]
 ver:x.op≠0->gL 3 (gX x.ver)=0/\(∃ d r,x.ver=d::r/\gf d=true)/\∀ y∈x.ver,(y==32)=false
theorem jP.bare.right {x:jP}(h:x.bare):x.right:=⟨Ct h.name,by have:=h.op;omega,h.none,fun z=>(h.ver (by omega)).1⟩
theorem acx {op:Nat}(H:op≠0)(F:op<=5){d:UInt8}(D:gf d=true):As (nN op++d::r)=(op,d::r):=by
 have z:fY 61 (d::r)=false:=by
  show(d==61)=false;have:=kf (fun d=>!gf d || !(d==61)) (by kernel_rfl) d;simpa [D] using this
 rcases(by omega:op=1\/op=2\/op=3\/op=4\/op=5) with rfl | rfl | rfl | rfl | rfl
 ·have e:As (60::d::r)=if fY 61 (d::r) then (2,(d::r).drop 1) else (1,d::r):=rfl
  show As (60::d::r)=_;rw[e,z];rfl
 ·rfl
 ·rfl
 ·rfl
 ·have e:As (62::d::r)=if fY 61 (d::r) then (4,(d::r).drop 1) else (5,d::r):=rfl
  show As (62::d::r)=_;rw[e,z];rfl
theorem Yo {op:Nat}(F:op≠0)(D:op<=5)(q:LU):∀ x,(nN op++q).head?=some x->pG x=false:=by
 rcases(by omega:op=1\/op=2\/op=3\/op=4\/op=5) with rfl | rfl | rfl | rfl | rfl
 all_goals (intro x z;simp only[nN,List.cons_append,List.head?_cons,Option.some.injEq] at z;subst z;decide)
theorem EU {x:jP}(h:x.bare):mW x.text=some x:=by
 obtain⟨no,nm,op,v⟩:=x;obtain⟨D,H,R,M⟩:=h;simp only at D H R M;obtain⟨a,r,e,X⟩:=oP D;have O:ji (jP.mk no nm op v).text=nm++(nN op++v)/\fY 33 (jP.mk no nm op v).text=no:=by
  unfold ji jP.text;cases no with
  | true=>simp[fY]
  | false=>
   have K:fY 33 (nm++nN op++v)=false:=by rw[e];show(a==33)=false;simpa using(IZ a X).2.2.2.1
   simp only[Bool.false_eq_true,if_false,List.nil_append,K];simp
 have z:nm.all pG=true:=KJ (p:=GM) fun x J=>(qE x (qa D J)).2.1;unfold mW;rw[O.1,O.2];by_cases F:op=0
 ·obtain rfl:=R F;subst F;have I:fS pG (nm++(nN 0++[]))=nm.length:=sg z (fun x J=>by simp[nN] at J);rw[I,List.take_left,List.drop_left,Ct D,if_pos rfl];rfl
 ·obtain⟨V,⟨d,t,rfl,U⟩,_⟩:=M F;have I:fS pG (nm++(nN op++d::t))=nm.length:=sg z (Yo F H _);rw[I,List.take_left,List.drop_left,Ct D,if_pos rfl];unfold In;rw[acx F H U,if_neg (by simp),if_pos V]
theorem zG {x:jP}(h:x.bare):x.text.all kg=true/\∃ a r,x.text=a::r:=by
 constructor
 ·rw[List.all_eq_true];intro y z;have key:∀ y:UInt8,y≠32->kg y=true:=fun y z=>by unfold kg;simpa [bne] using z
  unfold jP.text at z;rcases List.mem_append.1 z with z | z
  ·split at z
   ·rw[List.mem_singleton.1 z];rfl
   ·simp at z
  ·rcases List.mem_append.1 z with z | z
   ·rcases List.mem_append.1 z with z | z
    ·exact key y (qE y (qa h.name z)).2.2.2.2.1
    ·by_cases D:x.op=0
     ·rw[D] at z;simp[nN] at z
     ·have F:=h.op;rcases(by omega:x.op=1\/x.op=2\/x.op=3\/x.op=4\/x.op=5) with e | e | e | e | e
      all_goals
       rw[e] at z;simp only[nN,List.mem_cons,List.not_mem_nil,or_false] at z
       first
        | (subst z;rfl)
        | (rcases z with rfl | rfl<;>rfl)
   ·by_cases D:x.op=0
    ·rw[h.none D] at z;simp at z
    ·exact key y (by simpa using(h.ver D).2.2 y z)
 ·obtain⟨a,r,e,_⟩:=oP h.name;unfold jP.text;rw[e];cases x.no with
  | true=>exact⟨33,_,rfl⟩
  | false=>exact⟨a,_,rfl⟩
theorem EZ:∀ (L:List jP)(f n:Nat),L.length<f->n+L.length<=64->(∀ x∈L,x.bare)->nU f n (ko L)=some L
 | [],0,n,h,_,_=>by simp at h
 | [],f+1,n,_,_,_=>by
  have:ko []=[]:=rfl;rw[this,yU]
 | x::L,0,n,h,_,_=>by simp at h
 | [x],f+1,n,hf,hn,h=>by
  have H:=h x (by simp);obtain⟨D,a,r,e⟩:=zG H;have M:ko [x]=x.text:=by unfold ko;rw[List.map_singleton,Lib.join_one]
  rw[M];have F:=sg D (r:=[]) (fun c I=>by simp at I);rw[List.append_nil] at F;have K:kg a=true:=by rw[e,List.all_cons,Bool.and_eq_true] at D;exact D.1
  have J:mW (x.text.take (fS kg x.text))=some x:=by rw[F,List.take_length];exact EU H
  rw[wi (by rw[e];exact K) (by simp at hn;omega) J,F,List.drop_length];cases f with
  | zero=>simp at hf
  | succ f=>rw[yU];rfl
 | x::y::L,f+1,n,hf,hn,h=>by
  have H:=h x (by simp);have O:=EZ (y::L) f (n+1) (by simp at hf |-;omega) (by simp at hn |-;omega) (fun z R=>h z (List.mem_cons_of_mem _ R));obtain⟨D,a,r,e⟩:=zG H;have M:ko (x::y::L)=x.text++32::ko (y::L):=by unfold ko;rw[List.map_cons,List.map_cons,om];simp
  have F:=sg D (r:=32::ko (y::L)) (fun c I=>by simp only[List.head?_cons,Option.some.injEq] at I;subst I;rfl);have K:kg a=true:=by rw[e,List.all_cons,Bool.and_eq_true] at D;exact D.1
  rw[M];have J:mW ((x.text++32::ko (y::L)).take (fS kg (x.text++32::ko (y::L))))=some x:=by rw[F,List.take_left];exact EU H
  rw[wi (by rw[e];exact K) (by simp at hn;omega) J,F,List.drop_left,At,O];rfl
theorem zH:∀ (L:List jP),(∀ x∈L,x.bare)->L.length<=(ko L).length
 | [],_=>by simp
 | [x],h=>by
  obtain⟨_,a,r,e⟩:=zG (h x (by simp));have D:ko [x]=x.text:=by unfold ko;rw[List.map_singleton,Lib.join_one]
  rw[D,e];simp
 | x::y::L,h=>by
  have F:=zH (y::L) (fun z H=>h z (List.mem_cons_of_mem _ H));have D:ko (x::y::L)=x.text++32::ko (y::L):=by unfold ko;rw[List.map_cons,List.map_cons,om];simp
  rw[D];simp only[List.length_append,List.length_cons] at F |-;omega
theorem AO {L:List jP}(h:∀ x∈L,x.bare)(z:L.length<=64):jL (ko L)=some L:=by
 unfold jL;exact EZ L _ 0 (by have:=zH L h;omega) (by omega) h
section
open Go.RowKit
theorem Gk (f:FuncId)(O Z:Value)(p:gj->Bool)(A:OA)(c:Nat)(l:List gj)(w:World)(V:Rd w 3 A l.length (l.flatMap gj.cells))(hl:l.length<=1000000)
  (hcall:∀ (args:Array Value)(w:World),(callFunc f args).run prog w=.ok (.enter f args) w)
  (hf:Hid (∀ g∈l,∀ W,Bw w W->Calls prog f #[g.val,O,Z] W fun e w'=>e=.returned (.bool (p g))/\Bw W w')):Calls prog 157 #[.slice A l.length c,.func (.func f) #[] #[O,Z]] w fun e w'=>e=.returned (.int .i64 (zL p l 0))/\Bw w w':=by
 have HR:=fH V;clear V;go_in;go_wp2;go_loopw [8] (fun i wr=>∃ k:Nat,k<=l.length/\i=.int .i64 k/\Hid (∀ y∈l.take k,p y=false)/\Hid (Bw w wr)) (fun i _=>l.length-(intOf i).toNat)
 case atStart=>exact⟨0,z0,rfl,by simp[Hid],bR⟩
 case round=>
  obtain⟨k,hk,rfl,M,H⟩:=hrel;by_cases D:k<l.length
  ·obtain⟨x,I⟩:∃ x,l[k]?=some x:=⟨_,gG D⟩
   obtain⟨b,off,U,Y⟩:=(HR.below H).elem Ez k x I;obtain⟨R,e1,e2⟩:=qj Y;simp only[Nat.add_zero] at R;have J:=fun W=>gi (T:=42) (E:=81) (sz:=3) (c:=c) underlying42 rfl sizeOf81 U D W;have HX:=fH I;have K:=fH (fun W hb=>hf.out x (gM I) W hb);unfold gj.val at K;clear I U Y;go_wp2_with fail;refine mb (K _ H) ?_;rintro w1 F;have X:=fH (fM H F);clear F R e1 e2 J K;cases hp:p x
   ·have HP:=fH hp;clear hp;go_wp2;go_roundw
    case rel=>exact⟨k+1,by omega,by go_num,fH (fun y z=>by
     rw[gC HX.out] at z;rcases List.mem_append.1 z with z | z
     ·exact M.out y z
     ·rw[List.mem_singleton.1 z];exact HP.out),X⟩
    case measure=>simp[intOf];omega
   ·have E:Hid (zL p l 0=k):=by show _=_;rw[yc HX.out M.out hp];omega
    clear hp;go_wp2;go_ret;exact⟨fT E.out.symm,X⟩
  ·have E:Hid (zL p l 0=-1):=si 0 (fun y z=>M.out y (by rw[tL (by omega)];exact z));go_wp2;go_ret;exact⟨fT E.out.symm,H⟩
theorem yG (f:FuncId)(D F:Value)(p:gj->Bool)(A:OA)(c:Nat)(l:List gj)(w:World)(I:Rd w 3 A l.length (l.flatMap gj.cells))(J:l.length<=1000000)
  (hcall:∀ (args:Array Value)(w:World),(callFunc f args).run prog w=.ok (.enter f args) w)
  (H:Hid (∀ g∈l,∀ W,Bw w W->Calls prog f #[g.val,D,F] W fun e w'=>e=.returned (.bool (p g))/\Bw W w')):Calls prog 104 #[.slice A l.length c,.func (.func f) #[] #[D,F]] w fun e w'=>e=.returned (.bool (l.any p))/\Bw w w':=by
 have O:=fH (Gk f D F p A c l w I J hcall H);have M:=fH (uZ p l 0 (by omega));generalize zL p l 0=ix at *;clear I H;go_in;go_wp2_with fail;refine O.mono ?_;rintro e R ⟨rfl,z⟩;have K:=fH z;clear z;go_wp2;go_ret;exact⟨fJ M,K⟩
theorem Gm (f:FuncId)(O:Value)(p:fL->Bool)(A:OA)(c:Nat)(l:List fL)(w:World)(V:Rd w 5 A l.length (l.flatMap fL.cells))(hl:l.length<=1000000)
  (hcall:∀ (args:Array Value)(w:World),(callFunc f args).run prog w=.ok (.enter f args) w)
  (hf:Hid (∀ g∈l,∀ W,Bw w W->Calls prog f #[g.val,O] W fun e w'=>e=.returned (.bool (p g))/\Bw W w')):Calls prog 156 #[.slice A l.length c,.func (.func f) #[] #[O]] w fun e w'=>e=.returned (.int .i64 (zL p l 0))/\Bw w w':=by
 have HR:=fH V;clear V;go_in;go_wp2;go_loopw [8] (fun i wr=>∃ k:Nat,k<=l.length/\i=.int .i64 k/\Hid (∀ y∈l.take k,p y=false)/\Hid (Bw w wr)) (fun i _=>l.length-(intOf i).toNat)
 case atStart=>exact⟨0,z0,rfl,by simp[Hid],bR⟩
 case round=>
  obtain⟨k,hk,rfl,M,H⟩:=hrel;by_cases D:k<l.length
  ·obtain⟨x,I⟩:∃ x,l[k]?=some x:=⟨_,gG D⟩
   obtain⟨b,off,U,Y⟩:=(HR.below H).elem uK k x I;obtain⟨R,e1,e2,e3,e4⟩:=rF Y;simp only[Nat.add_zero] at R;have J:=fun W=>gi (T:=84) (E:=86) (sz:=5) (c:=c) underlying84 rfl sizeOf86 U D W;have Z:=fH I;have K:=fH (fun W hb=>hf.out x (gM I) W hb);unfold fL.val at K;clear I U Y;go_wp2_with fail;refine mb (K _ H) ?_;rintro w1 F;have X:=fH (fM H F);clear F R e1 e2 e3 e4 J K;cases hp:p x
   ·have HP:=fH hp;clear hp;go_wp2;go_roundw
    case rel=>exact⟨k+1,by omega,by go_num,fH (fun y z=>by
     rw[gC Z.out] at z;rcases List.mem_append.1 z with z | z
     ·exact M.out y z
     ·rw[List.mem_singleton.1 z];exact HP.out),X⟩
    case measure=>simp[intOf];omega
   ·have E:Hid (zL p l 0=k):=by show _=_;rw[yc Z.out M.out hp];omega
    clear hp;go_wp2;go_ret;exact⟨fT E.out.symm,X⟩
  ·have E:Hid (zL p l 0=-1):=si 0 (fun y z=>M.out y (by rw[tL (by omega)];exact z));go_wp2;go_ret;exact⟨fT E.out.symm,H⟩
theorem rq (f:FuncId)(D:Value)(p:fL->Bool)(A:OA)(c:Nat)(l:List fL)(w:World)(H:Rd w 5 A l.length (l.flatMap fL.cells))(I:l.length<=1000000)
  (hcall:∀ (args:Array Value)(w:World),(callFunc f args).run prog w=.ok (.enter f args) w)
  (F:Hid (∀ g∈l,∀ W,Bw w W->Calls prog f #[g.val,D] W fun e w'=>e=.returned (.bool (p g))/\Bw W w')):Calls prog 103 #[.slice A l.length c,.func (.func f) #[] #[D]] w fun e w'=>e=.returned (.bool (l.any p))/\Bw w w':=by
 have M:=fH (Gm f D p A c l w H I hcall F);have K:=fH (uZ p l 0 (by omega));generalize zL p l 0=ix at *;clear H F;go_in;go_wp2_with fail;refine M.mono ?_;rintro e O ⟨rfl,z⟩;have J:=fH z;clear z;go_wp2;go_ret;exact⟨fJ K,J⟩
structure CH where
 tA:OA
 tn:Nat
 tc:Nat
 T:fL
 tB:OA
 tm:Nat
 td:Nat
def CH.cells (t:CH):LV:=[.slice t.tA t.tn t.tc,.string t.T.op,.string t.T.nm,.int .i64 t.T.aop,.string t.T.ver,.slice t.T.ka t.T.kids.length t.T.kc,.slice t.tB t.tm t.td]
theorem ac4 (t:CH):t.cells.length=7:=rfl
theorem WG:(prog.info? 89).map (fun i=>(i.zero,i.size,i.bytes))=some (some (.agg #[.slice none 0 0,.string ⟨#[]⟩,.string ⟨#[]⟩,.int .i64 0,.string ⟨#[]⟩,.slice none 0 0,.slice none 0 0]),7,128):=by kernel_rfl
theorem RX (w:World)(t:TypeId)(a b c d e f g:Value):nE (w.alloc (.cells #[a,b,c,d,e,f,g] t)) (w.heap.size+1) 7 (some ⟨w.heap.size,0,none⟩) 1 [a,b,c,d,e,f,g]:=by
 refine⟨rfl,fun _=>⟨_,rfl,by simp,fun j u z=>?_⟩⟩
 match j,z with
 | 0,z=>simp at z;subst z;simp[Addr.add]
 | 1,z=>simp at z;subst z;simp[Addr.add]
 | 2,z=>simp at z;subst z;simp[Addr.add]
 | 3,z=>simp at z;subst z;simp[Addr.add]
 | 4,z=>simp at z;subst z;simp[Addr.add]
 | 5,z=>simp at z;subst z;simp[Addr.add]
 | 6,z=>simp at z;subst z;simp[Addr.add]
 | j+7,z=>simp at z
end
end Go.Proofs.YtkmjcombhjombaaGreatDoor
