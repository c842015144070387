/- A part of the proof. -/
import Derived.Test.YtkmjcombhjombaaGreatDoorK06
import Derived.Test.YtkmjcombhjombaaGreatDoorK07
import Derived.Test.YtkmjcombhjombaaGreatDoorK08
set_option maxRecDepth 100000
set_option maxHeartbeats 20000000
set_option linter.unusedVariables false
set_option linter.unusedSimpArgs false
namespace Go.Proofs.YtkmjcombhjombaaGreatDoor
variable{s:BA}{f g:BA->Option Value}{ans:BA×Int}{fo:Bool}{fmt:Int}{b k m n o:Nat}{v:Value}{W w w' wr:World}
section
open Go.RowKit
def zj (s:BA):BA:=⟨((pQ (bl s)).getD []).toArray⟩
def Sm (s:BA):Bool:=(pQ (bl s)).isSome
def Sn (s:BA):Value:=.tuple #[.string (zj s),.bool (Sm s)]
theorem Hb (h:pQ (bl s)=none):Sn s=.tuple #[.string ⟨#[]⟩,.bool false]:=by simp[Sn,zj,Sm,h]
theorem So {i:Nat}(h:pQ (bl s)=some ((bl s).take i)):Sn s=.tuple #[.string (s.extract 0 i),.bool true]:=by
 simp only[Sn,zj,Sm,h,Option.getD_some,Option.isSome_some];congr 3;apply congrArg;apply nH;rw[pd,mF]
theorem Jm (s:BA)(w:World)(hG:Gl w)(hs:s.size<=4294967280):Calls Tryz.prog 114 #[.string s] w fun e w'=>e=.returned (Sn s)/\Below w.heap.size w w':=by
 have H:=iV hG;clear hG;cases hl:nj 47 (bl s) with
 | none=>
  have E:Hid (pQ (bl s)=none):=by show _=_;unfold pQ;rw[hl];simp
  have y:=iV hl;clear hl;go_in;go_wp2_with fail;refine(mx s 47 _ (by omega) y).mono ?_;rintro e w' ⟨rfl,rfl⟩;go_wp2;go_ret2;exact⟨by rw[Hb E.out];rfl,bR⟩
 | some i=>
  have J:i<s.size:=by have:=xD _ _ _ hl;rw[iX] at this;exact this
  cases hp:rK (bl s)
  ·have E:Hid (pQ (bl s)=none):=by show _=_;unfold pQ;rw[hp];rfl
   have y:=iV hl;have D:=iV hp;clear hl hp;go_in;go_wp2_with fail;refine(kM s 47 i _ (by omega) y).mono ?_;rintro e w' ⟨rfl,rfl⟩;go_wp2_with fail;refine(wC s _ H.out (by omega)).mono ?_;rintro e I ⟨rfl,z⟩;rw[D.out];have F:=iV z;clear z;go_wp2;go_ret2;exact⟨by rw[Hb E.out];rfl,F.out⟩
  ·have E:Hid (pQ (bl s)=some ((bl s).take i)):=by show _=_;unfold pQ;rw[hp,hl];rfl
   have y:=iV hl;have D:=iV hp;clear hl hp;go_in;go_wp2_with fail;refine(kM s 47 i _ (by omega) y).mono ?_;rintro e w' ⟨rfl,rfl⟩;go_wp2_with fail;refine(wC s _ H.out (by omega)).mono ?_;rintro e I ⟨rfl,z⟩;rw[D.out];have F:=iV z;clear z;go_wp2;go_ret2;exact⟨by rw[So E.out];rfl,F.out⟩
end
section
open Go.RowKit
open Classical
def kC (l:List jg):List BA:=l.map (·.path)
end
section
open Go.RowKit Go.Maps
theorem lG.alloc (h:lG w b n f)(o:Obj):lG (w.alloc o) b n f:=h.kept (World.grownBy_alloc w o none) (by simp)
theorem wS {base:Nat}{e t:TypeId}{size:Nat}{xs:List Value}{cs:Array Value}{fr:Nat×Nat}(h:W.ownsRow base e size v n xs)(hb:W.heap[b]?=some (.cells cs t fr))(hne:t≠e):some b≠v.ownBlock:=by
 intro z;rcases h.2 with⟨rfl,_⟩ | ⟨g,cap,D,rfl,_,y,_⟩
 ·simp[Value.ownBlock] at z
 ·simp[Value.ownBlock] at z;subst z;rw[hb] at y;injection y with y;injection y with _ h2 _;exact hne h2
end
section
open Go.RowKit
theorem rU {b1 b2:Nat}{e1 e2:TypeId}{s1 s2 n1 n2:Nat}{v1 v2:Value}{x1 x2:List Value}(h1:W.ownsRow b1 e1 s1 v1 n1 x1)(h2:W.ownsRow b2 e2 s2 v2 n2 x2)(hne:e1≠e2):v1.ownBlock=none\/v1.ownBlock≠v2.ownBlock:=by
 rcases h1.2 with⟨rfl,_⟩ | ⟨g,cap,z,rfl,_,y,_⟩
 ·exact .inl rfl
 ·exact .inr (wS h2 y hne)
end
section
open Go.RowKit Go.Maps
def pC (prev:Option jg)(f:jg):Bool:=match prev with
 | none=>true
 | some g=>decide (bl g.path<bl f.path)
def qA (pre:List jg)(f:jg):Bool:=Sm f.path&&pre.any (fun g=>decide (g.path=zj f.path)&&decide (g.kind≠2))
def rb (fmt:Int)(pre:List jg)(f:jg):Int:=
 if (rK (bl f.path)&&rG (bl f.path))=false then 10 else if pC pre.getLast? f=false then 15 else if ¬ (f.kind=1\/f.kind=2\/f.kind=3) then 9
 else if kQ fmt f=false then 1 else if qA pre f=true then 9 else 0
def lj (fmt:Int):List jg->List jg->Option (BA×Int)
 | _,[]=>none
 | pre,f::r=>if rb fmt pre f=0 then lj fmt (pre++[f]) r else some (f.path,rb fmt pre f)
theorem LX {fs:List jg}{f:jg}(h:fs[k]?=some f)(h0:lj fmt [] fs=lj fmt (fs.take k) (fs.drop k))(he:rb fmt (fs.take k) f=0):lj fmt [] fs=lj fmt (fs.take (k+1)) (fs.drop (k+1)):=by
 obtain⟨y,z⟩:=gS h;rw[h0,List.drop_eq_getElem_cons y,z,lj,if_pos he,tS y,z]
theorem qB {fs:List jg}{f:jg}(h:fs[k]?=some f)(h0:lj fmt [] fs=lj fmt (fs.take k) (fs.drop k))(he:rb fmt (fs.take k) f≠0):lj fmt [] fs=some (f.path,rb fmt (fs.take k) f):=by
 obtain⟨y,z⟩:=gS h;rw[h0,List.drop_eq_getElem_cons y,z,lj,if_neg he]
theorem Pb {fs:List jg}(hk:fs.length<=k)(h0:lj fmt [] fs=lj fmt (fs.take k) (fs.drop k)):lj fmt [] fs=none:=by
 rw[h0,List.drop_of_length_le hk];rfl
def kR (fmt:Int)(fs:List jg):BA×Int:=if 512<fs.length then (⟨#[102,105,108,101,115]⟩,4) else (lj fmt [] fs).getD (⟨#[]⟩,0)
def xa (fmt:Int)(fs:List jg):Value:=.tuple #[.string (kR fmt fs).1,.int .i64 (kR fmt fs).2]
structure yv (pre:List jg) (g:BA->Option Value):Prop where
 sorted:(kC pre).Pairwise (fun s t=>bl s<bl t)
 kind:∀ x∈pre,g x.path=some (.int .i64 x.kind)
 mem:∀ s,g s≠none->s∈kC pre
theorem yv.nil:yv [] (fun _=>none):=⟨by simp[kC],by simp,by simp⟩
theorem yv.less {pre:List jg}(h:yv pre g){f:jg}(ho:pC pre.getLast? f=true):∀ x∈pre,bl x.path<bl f.path:=by
 intro x z;cases hl:pre.getLast? with
 | none=>rw[List.getLast?_eq_none_iff] at hl;subst hl;simp at z
 | some y=>
  rw[hl] at ho;have D:bl y.path<bl f.path:=dO ho;obtain⟨H,rfl⟩:=List.getLast?_eq_some_iff.1 hl;rcases List.mem_append.1 z with z | z
  ·have F:=h.sorted;rw[show kC (H++[y])=kC H++[y.path] by simp[kC],List.pairwise_append] at F;exact VJ (F.2.2 x.path (List.mem_map.2 ⟨x,z,rfl⟩) y.path (by simp)) D
  ·rw[List.mem_singleton.1 z];exact D
theorem yv.put {pre:List jg}(h:yv pre g){f:jg}(ho:pC pre.getLast? f=true):yv (pre++[f]) (fun x=>if x=f.path then some (.int .i64 f.kind) else g x):=by
 have F:=h.less ho;refine⟨?_,fun x y=>?_,fun s D=>?_⟩
 ·rw[show kC (pre++[f])=kC pre++[f.path] by simp[kC],List.pairwise_append];refine⟨h.sorted,by simp,fun a H b I=>?_⟩;obtain⟨x,y,rfl⟩:=List.mem_map.1 H;rw[List.mem_singleton.1 I];exact F x y
 ·rcases List.mem_append.1 y with y | y
  ·have z:x.path≠f.path:=fun e=>by have:=F x y;rw[e] at this;exact uJ _ this
   simp only[if_neg z];exact h.kind x y
  ·rw[List.mem_singleton.1 y];simp
 ·by_cases e:s=f.path
  ·subst e;simp[kC]
  ·simp only[if_neg e] at D;have:=h.mem s D;simp only[kC,List.map_append,List.mem_append] at this |-;exact .inl this
theorem yv.par {pre:List jg}(h:yv pre g)(f:jg)(hp:Sm f.path=true):
  (g (zj f.path)=none/\qA pre f=false)\/∃ k:Int,g (zj f.path)=some (.int .i64 k)/\qA pre f=decide (k≠2):=by
 unfold qA;rw[hp];cases hg:g (zj f.path) with
 | none=>
  refine .inl ⟨rfl,?_⟩;rw[Bool.true_and,List.any_eq_false];intro x I H;rw[Bool.and_eq_true] at H;have z:=dO H.1;have:=h.kind x I;rw[z,hg] at this;cases this
 | some v=>
  obtain⟨x,I,z⟩:=List.mem_map.1 (h.mem (zj f.path) (by rw[hg];simp));have D:=h.kind x I;have z:x.path=zj f.path:=z;rw[z,hg] at D;injection D with D;subst D;refine .inr ⟨x.kind,rfl,?_⟩;rw[Bool.true_and,bI,List.any_eq_true,decide_eq_true_iff];constructor
  ·rintro⟨y,hy,H⟩;rw[Bool.and_eq_true] at H;have J:=dO H.1;have K:=dO H.2;have M:=h.kind y hy;have F:=h.kind x I;rw[J] at M;rw[z,M] at F;injection F with F;injection F with _ F;rw[<-F];exact K
  ·intro D;exact⟨x,I,by rw[dT z,dT D];rfl⟩
theorem YH (s:BA):(zj s).size<=s.size:=by
 have h:(bl (zj s)).length<=(bl s).length:=by
  unfold zj;rw[pd];unfold pQ;split
  ·cases nj 47 (bl s) with
   | none=>simp
   | some i=>simp only[Option.map_some,Option.getD_some];rw[List.length_take];omega
  ·simp
 rw[iX,iX] at h;exact h
theorem YI (w:World):(zeroValue 3).run Tryz.prog w=.ok (.int .i64 0) w:=by kernel_rfl
theorem yw (f:jg)(pre:List jg)(g:BA->Option Value)(mb B n:Nat)(w:World)(hG:Gl w)(hc:w.cell? ⟨mb,0,none⟩=some (.map (some B)))(hlt:mb<w.heap.size)(hM:lG w B n g)(hK:yv pre g)(hs:f.path.size<=4294967280):Calls Tryz.prog 113 #[.string f.path,.pointer (some ⟨mb,0,none⟩)] w fun e w'=>e=.returned (.bool (!qA pre f))/\Below w.heap.size w w':=by
 have N:=iV hG;have U:=iV hM;have R:=iV hK;have K:=iV hc;clear hG hM hK hc;go_in;go_wp2_with fail;refine(Jm f.path _ N.out hs).mono ?_;rintro e O ⟨rfl,H⟩;have I:=iV H;have M:O.cell? ⟨mb,0,none⟩=some (.map (some B)):=(H.cell (p:=⟨mb,0,none⟩) hlt).trans K.out;have V:=YH f.path;have y:=(U.out.below H).look_ok Tryz.underlying99 YI (zj f.path) (by unfold maxLen;omega);clear H;unfold Sn;cases hp:Sm f.path
 ·have E:Hid (qA pre f=false):=by show _=_;unfold qA;rw[hp];rfl
  clear hp;go_wp2;go_ret;exact⟨iW (by rw[E.out];rfl),I.out⟩
 ·rcases R.out.par f hp with⟨F,z⟩ | ⟨k,F,z⟩
  ·rw[F] at y;simp only[Option.getD_none,Option.isSome_none] at y;have E:=iV z;clear F z hp;go_wp2;go_ret;exact⟨iW (by rw[E.out];rfl),I.out⟩
  ·rw[F] at y;simp only[Option.getD_some,Option.isSome_some] at y;by_cases D:k=2
   ·have J:(k==2)=true:=by simpa using D
    have E:Hid (qA pre f=false):=by show _=_;rw[z];simp[D]
    clear F z hp D;go_wp2;go_ret;exact⟨iW (by rw[E.out];rfl),I.out⟩
   ·have J:(k==2)=false:=by simpa using D
    have E:Hid (qA pre f=true):=by show _=_;rw[z];simp[D]
    clear F z hp D;go_wp2;go_ret;exact⟨iW (by rw[E.out];rfl),I.out⟩
theorem qC {fs:List jg}{p:BA}{e:Int}(hl:¬ 512<fs.length)(h:lj fmt [] fs=some (p,e)):xa fmt fs=.tuple #[.string p,.int .i64 e]:=by
 unfold xa kR;rw[if_neg hl,h];rfl
theorem TD {fs:List jg}(hl:¬ 512<fs.length)(h:lj fmt [] fs=none):xa fmt fs=.tuple #[.string ⟨#[]⟩,.int .i64 0]:=by
 unfold xa kR;rw[if_neg hl,h];rfl
theorem TE {fs:List jg}{f:jg}(h:fs[k]?=some f):(fs.take (k+1)).getLast?=some f:=by
 obtain⟨y,z⟩:=gS h;rw[tS y,z];simp
theorem Wk (s t:BA):(Op.bytesLess s.toList t.toList||s.toList==t.toList)=!decide (bl t<bl s):=by
 rw[wk,mI,iY,iY];by_cases h:bl t<bl s
 ·rw[dT h];have D:¬ bl s<bl t:=fun y=>uJ _ (VJ h y);have z:s≠t:=fun e=>by rw[e] at h;exact uJ _ h
  simp[D,z]
 ·rw[dF h];by_cases e:s=t
  ·simp[e]
  ·have:bl s<bl t:=Ht h (fun y=>e (nH y).symm);simp[this]
structure Yc (w wr:World) (k:Nat) (pre:List jg) (g:BA->Option Value):Prop where
 map:lG wr w.heap.size k g
 inv:yv pre g
 cell:wr.cell? ⟨w.heap.size+1,0,none⟩=some (.map (some w.heap.size))
 bel:Below w.heap.size w wr
 sz:w.heap.size+2<=wr.heap.size
theorem Yc.below {pre:List jg}(h:Yc w wr k pre g)(hb:Below wr.heap.size wr w'):Yc w w' k pre g:=
 ⟨h.map.below hb,h.inv,(hb.cell (p:=⟨w.heap.size+1,0,none⟩) (by have:=h.sz;show w.heap.size+1<_;omega)).trans h.cell,jc h.bel hb,Nat.le_trans h.sz hb.size⟩
theorem Yc.start (w:World):Yc w ((w.alloc (.map #[] 0)).alloc (.cells #[.map (some w.heap.size)] 99)) 0 [] (fun _=>none):=
 ⟨(lG.made w).alloc _,yv.nil,by simp,(bR.alloc lr _).alloc (by simp) _,by simp⟩
theorem Yc.put {pre:List jg}{f:jg}(h:Yc w wr k pre g)(ho:pC pre.getLast? f=true)(hm:lG w' w.heap.size (k+1) (fun x=>if x=f.path then some (.int .i64 f.kind) else g x))(hg:wr.grownBy w' (some w.heap.size)):Yc w w' (k+1) (pre++[f]) (fun x=>if x=f.path then some (.int .i64 f.kind) else g x):=
 ⟨hm,h.inv.put ho,hg.cell h.cell (by simp),h.bel.grown hg h.bel.size (fun j y=>by injection y with y;omega),Nat.le_trans h.sz hg.size⟩
theorem zC (fmt:Int)(hfmt:fmt=1\/fmt=2\/fmt=3)(A:Option Addr)(c:Nat)(fs:List jg)(w:World)(hG:Gl w)(hr:Rd w 8 A fs.length (fs.flatMap jg.cells))(hn:fs.length<=9223372036854775807)(hf:∀ x∈fs,x.path.size<=4294967280/\x.owner.size<=4294967280/\x.group.size<=4294967280/\x.link.size<=4294967280/\x.sum.size<=4294967280):Calls Tryz.prog 71 #[.int .i64 fmt,.slice A fs.length c] w fun e w'=>e=.returned (xa fmt fs)/\Below w.heap.size w w':=by
 have HG:=iV hG;have HR:=iV hr;have HF:=iV hf;clear hG hr hf;by_cases z:512<fs.length
 ·have E:Hid (xa fmt fs=.tuple #[.string ⟨#[102,105,108,101,115]⟩,.int .i64 4]):=by show _=_;unfold xa kR;rw[if_pos z]
  go_in;go_wp2;go_ret2;exact⟨by rw[E.out];rfl,bR⟩
 have an:=@run_makeMap Tryz.prog;go_in;go_wp2_with fail;clear an;go_loopw [17] (fun i wr=>∃ (k:Nat) (g:BA->Option Value),k<=fs.length/\i=.int .i64 k/\Hid (lj fmt [] fs=lj fmt (fs.take k) (fs.drop k))/\Hid (Yc w wr k (fs.take k) g)) (fun i _=>fs.length-(intOf i).toNat)
 case atStart=>exact⟨0,_,z0,rfl,rfl,Yc.start w⟩
 case round=>
  obtain⟨k,g,hk,rfl,K,F⟩:=hrel;by_cases ad:k<fs.length
  ·obtain⟨f,hf⟩:∃ f,fs[k]?=some f:=⟨_,gG ad⟩
   obtain⟨aj,aB,aA,ay,az⟩:=HF.out f (gM hf);obtain⟨b,off,hA,J⟩:=(HR.out.below F.out.bel).elem nS k f hf;have e0:=J 0 _ rfl;have e1:=J 1 _ rfl;have e2:=J 2 _ rfl;have e3:=J 3 _ rfl;have e4:=J 4 _ rfl;have e5:=J 5 _ rfl;have e6:=J 6 _ rfl;have e7:=J 7 _ rfl;simp only[Nat.add_zero] at e0;have ar:=fun W=>jm (T:=35) (E:=57) (sz:=8) (c:=c) Tryz.underlying35 rfl Tryz.sizeOf57 hA ad W;have N:=iV hf;clear hf J hA;have X0:Hid (Bx wr (wr.alloc (.cells #[.string f.path,.int .i64 f.kind,.int .i64 f.mode,.string f.owner,.string f.group,.string f.link,.string f.sum,.bool f.conf] 57)) f.cells):=Bx.start wr f.cells _;go_wp2_with fail;clear e0 e1 e2 e3 e4 e5 e6 e7 ar;refine(wC f.path _ (HG.out.below (jc F.out.bel X0.out.bel)) (by omega)).mono ?_;rintro e w1 ⟨rfl,aa⟩;have V:Hid (Bx wr w1 f.cells):=X0.out.step aa;clear aa;cases g1:rK (bl f.path)
   ·skip
    have M:=V.out.cell 0 _ rfl;have D:rb fmt (fs.take k) f=10:=by unfold rb;rw[g1];rfl
    have E:=iV (qC (fmt:=fmt) z (qB N.out K.out (by rw[D];decide)));rw[D] at E;clear D g1;go_wp2;go_ret2;exact⟨by rw[E.out];rfl,jc F.out.bel V.out.bel⟩
   have G1:=iV g1;clear g1;have M:=V.out.cell 0 _ rfl;go_wp2_with fail;refine(At f.path _ (by omega)).mono ?_;rintro e w' ⟨rfl,rfl⟩;cases g2:rG (bl f.path)
   ·skip
    have D:rb fmt (fs.take k) f=10:=by unfold rb;rw[G1.out,g2];rfl
    have E:=iV (qC (fmt:=fmt) z (qB N.out K.out (by rw[D];decide)));rw[D] at E;clear D g2;go_wp2;go_ret2;exact⟨by rw[E.out];rfl,jc F.out.bel V.out.bel⟩
   have G2:Hid ((rK (bl f.path)&&rG (bl f.path))=true):=by show _=_;rw[G1.out,g2];rfl
   clear g2;go_upto_region 10 with(fail)
   go_cut [35] (fun al wx=>∃ bb:Bool,al=.bool bb/\Hid (bb=!pC (fs.take k).getLast? f)/\Hid (Bx wr wx f.cells))
   case first=>
    by_cases k0:k=0
    ·have ap:decide (0<(k:Int))=false:=dF (by omega);have am:decide (0<k)=false:=dF (by omega);have OB:Hid (false=!pC (fs.take k).getLast? f):=by show _=_;rw[k0];rfl
     clear k0;go_quiet (fail);go_wp2;go_meet;exact⟨false,rfl,OB,V.out.drewN _⟩
    ·have ap:decide (0<(k:Int))=true:=dT (by omega);have am:decide (0<k)=true:=dT (by omega);have au:0<k:=by omega
     obtain⟨y,hy⟩:∃ y,fs[k-1]?=some y:=⟨_,gG (by omega)⟩
     have ab:(fs.take k).getLast?=some y:=by have:=TE hy;rw[show k-1+1=k by omega] at this;exact this
     obtain⟨b2,av,af,Y⟩:=(HR.out.below (jc F.out.bel V.out.bel)).elem nS (k-1) y hy;have p0:=Y 0 _ rfl;simp only[Nat.add_zero] at p0;have ax:=fun W=>BZ (T:=35) (E:=57) (sz:=8) (c:=c) (i:=(k:Int)-1) Tryz.underlying35 rfl Tryz.sizeOf57 (by omega) af (show k-1<fs.length by omega) W;have OB:Hid ((Op.bytesLess f.path.toList y.path.toList||f.path.toList==y.path.toList)=!pC (fs.take k).getLast? f):=by
      show _=_;rw[ab];exact Wk f.path y.path
     have iw:IntKind.i64.wrap ((k:Int)-1)=(k:Int)-1:=IntWalk.i64_in _ (by omega);clear hy ab Y af k0;go_quiet (fail);go_wp2;go_meet;exact⟨_,rfl,OB,V.out.drewN _⟩
   case rest=>
   obtain⟨bb,rfl,ae,H⟩:=hcut;clear M;have M:=H.out.cell 0 _ rfl;have c1:=H.out.cell 1 _ rfl;cases bb
   case true=>
    have U:Hid (pC (fs.take k).getLast? f=false):=by have:=ae.out;show _=_;revert this;cases pC (fs.take k).getLast? f<;>simp
    have D:rb fmt (fs.take k) f=15:=by unfold rb;rw[G2.out,U.out];rfl
    have E:=iV (qC (fmt:=fmt) z (qB N.out K.out (by rw[D];decide)));rw[D] at E;clear D;go_wp2;go_ret2;exact⟨by rw[E.out];rfl,jc F.out.bel H.out.bel⟩
   have U:Hid (pC (fs.take k).getLast? f=true):=by have:=ae.out;show _=_;revert this;cases pC (fs.take k).getLast? f<;>simp
   by_cases I:f.kind=1\/f.kind=2\/f.kind=3
   case neg=>
    have q1:(f.kind != 1)=true:=by simp[bne];omega
    have q2:(f.kind != 2)=true:=by simp[bne];omega
    have q3:(f.kind != 3)=true:=by simp[bne];omega
    have D:rb fmt (fs.take k) f=9:=by unfold rb;rw[G2.out,U.out,if_neg (by simp),if_neg (by simp),if_pos I]
    have E:=iV (qC (fmt:=fmt) z (qB N.out K.out (by rw[D];decide)));rw[D] at E;clear D I;go_wp2;go_ret2;exact⟨by rw[E.out];rfl,jc F.out.bel H.out.bel⟩
   have QQ:Hid (¬ ¬ (f.kind=1\/f.kind=2\/f.kind=3)):=fun h=>h I;have Q:decide (f.kind=1)=true\/(decide (f.kind=1)=false/\decide (f.kind=2)=true)\/(decide (f.kind=1)=false/\decide (f.kind=2)=false/\decide (f.kind=3)=true):=by
    by_cases h1:f.kind=1
    ·exact .inl (dT h1)
    by_cases h2:f.kind=2
    ·exact .inr (.inl ⟨dF h1,dT h2⟩)
    ·exact .inr (.inr ⟨dF h1,dF h2,dT⟩)
   clear I;go_upto_region 12 with(fail)
   go_cut [51] (fun aq wx=>aq=.bool false/\wc=wx)
   case first=>
    rcases Q with h | ⟨h,h'⟩ | ⟨h,h',ag⟩
    ·have q1:(f.kind != 1)=false:=by have:=dO h;simp[bne,this]
     clear h;go_wp2;go_meet;exact⟨rfl,rfl⟩
    ·have q1:(f.kind != 1)=true:=by have:=of_decide_eq_false h;simp[bne,this]
     have q2:(f.kind != 2)=false:=by have:=dO h';simp[bne,this]
     clear h h';go_wp2;go_meet;exact⟨rfl,rfl⟩
    ·have q1:(f.kind != 1)=true:=by have:=of_decide_eq_false h;simp[bne,this]
     have q2:(f.kind != 2)=true:=by have:=of_decide_eq_false h';simp[bne,this]
     have q3:(f.kind != 3)=false:=by have:=dO ag;simp[bne,this]
     clear h h' ag;go_wp2;go_meet;exact⟨rfl,rfl⟩
   case rest=>
   obtain⟨rfl,rfl⟩:=hcut;have c2:=H.out.cell 2 _ rfl;have c3:=H.out.cell 3 _ rfl;have c4:=H.out.cell 4 _ rfl;have c5:=H.out.cell 5 _ rfl;have c6:=H.out.cell 6 _ rfl;have c7:=H.out.cell 7 _ rfl;go_wp2_with fail;refine(BI fmt hfmt f _ (by omega) (by omega) (by omega) (by omega)).mono ?_;rintro e w3 ⟨rfl,Z⟩;have X3:Hid (Bx wr w3 f.cells):=H.out.step Z;clear Z M c1 c2 c3 c4 c5 c6 c7;have M:=X3.out.cell 0 _ rfl;cases g3:kQ fmt f
   case false=>
    have D:rb fmt (fs.take k) f=1:=by unfold rb;rw[G2.out,U.out,if_neg (by simp),if_neg (by simp),if_neg QQ.out,g3];rfl
    have E:=iV (qC (fmt:=fmt) z (qB N.out K.out (by rw[D];decide)));rw[D] at E;clear D g3;go_wp2;go_ret2;exact⟨by rw[E.out];rfl,jc F.out.bel X3.out.bel⟩
   have G3:=iV g3;clear g3;go_wp2_with fail;have X:=iV (F.out.below X3.out.bel);refine(yw f (fs.take k) g (w.heap.size+1) w.heap.size k _ (HG.out.below X.out.bel) X.out.cell (by have:=X.out.sz;omega) X.out.map X.out.inv aj).mono ?_;rintro e w4 ⟨rfl,R⟩;have X4:Hid (Bx wr w4 f.cells):=X3.out.step R;have S4:=iV (X.out.below R);clear R M;have M:=X4.out.cell 0 _ rfl;have c1:=X4.out.cell 1 _ rfl;cases g4:qA (fs.take k) f
   case true=>
    have D:rb fmt (fs.take k) f=9:=by unfold rb;rw[G2.out,U.out,if_neg (by simp),if_neg (by simp),if_neg QQ.out,G3.out,if_neg (by simp),g4];rfl
    have E:=iV (qC (fmt:=fmt) z (qB N.out K.out (by rw[D];decide)));rw[D] at E;clear D g4;go_wp2;go_ret2;exact⟨by rw[E.out];rfl,jc F.out.bel X4.out.bel⟩
   have D:Hid (rb fmt (fs.take k) f=0):=by show _=_;unfold rb;rw[G2.out,U.out,if_neg (by simp),if_neg (by simp),if_neg QQ.out,G3.out,if_neg (by simp),g4];rfl
   clear g4;have ak:=S4.out.cell;obtain⟨w5,O,ah,ac⟩:=S4.out.map.put Tryz.underlying99 (by unfold maxLen;omega) f.path (by unfold maxLen;omega) (.int .i64 f.kind);have S5:=iV (S4.out.put U.out ah ac);clear ah ac;go_wp2_with fail;clear O ak M c1;have TK:Hid (fs.take (k+1)=fs.take k++[f]):=by show _=_;obtain⟨ai,ao⟩:=gS N.out;rw[tS ai,ao]
   go_roundw
   case rel=>exact⟨k+1,_,by omega,by go_num,iV (LX N.out K.out D.out),iV (by rw[TK.out];exact S5.out)⟩
   case measure=>simp[intOf];omega
  ·have E:=iV (TD (fmt:=fmt) z (Pb (by omega) K.out));go_wp2;go_ret2;exact⟨by rw[E.out];rfl,F.out.bel⟩
def Nv (x:jg):Value:=.agg #[.int .i64 x.kind,.int .i64 x.mode,.string x.owner,.string x.group,.string x.link]
def uR (x y:jg):Bool:=(x.kind==y.kind)&&((x.mode==y.mode)&&((x.owner.toList==y.owner.toList)&&((x.group.toList==y.group.toList)&&(x.link.toList==y.link.toList))))
theorem ui (a b:jg):uR a b=true↔Nv a=Nv b:=by
 unfold uR Nv;simp only[Bool.and_eq_true,mI,beq_iff_eq,decide_eq_true_iff];constructor
 ·rintro⟨z,y,H,F,D⟩;rw[z,y,H,F,D]
 ·intro h;injection h with h;have h:=congrArg Array.toList h;simp only[List.cons.injEq,and_true] at h;obtain⟨z,y,H,F,D⟩:=h;injection z with _ z;injection y with _ y;injection H with H;injection F with F;injection D with D;exact⟨z,y,H,F,D⟩
def yx (fs:List jg)(s:BA):Option jg:=fs.find? fun y=>decide (y.path=s)
theorem xe {fs:List jg}{y:jg}(h:yx fs s=some y):y∈fs/\y.path=s:=
 by unfold yx at h;exact⟨List.mem_of_find?_eq_some h,by simpa using List.find?_some h⟩
theorem Pe {fs:List jg}(h:yx fs s=none):∀ y∈fs,y.path≠s:=by
 intro y D z;unfold yx at h;have:=List.find?_eq_none.1 h y D;exact this (dT z)
def Eg (q:jn)(x:jg):Bool:=match yx q.files x.path with
 | none=>false
 | some y=>!uR y x
def conf (pre:List jn)(x:jg):Bool:=pre.any fun q=>Eg q x
def LZ (pre:List jn)(p:jn):Bool:=match pre.getLast? with | none=>true | some q=>decide (bl q.nm<bl p.nm)
def Kj (ans:BA×Int)(pre:List jn)(p:jn):BA×BA×Int:=
 if ans.2≠0 then (p.nm,ans.1,ans.2)
 else if LZ pre p=false then (p.nm,⟨#[110,97,109,101]⟩,15)
 else match p.files.find? (conf pre) with
  | some f=>(p.nm,f.path,8)
  | none=>(⟨#[]⟩,⟨#[]⟩,0)
def zF (ans:jn->BA×Int):List jn->List jn->BA×BA×Int
 | _,[]=>(⟨#[]⟩,⟨#[]⟩,0)
 | pre,p::r=>if (Kj (ans p) pre p).2.2=0 then zF ans (pre++[p]) r else Kj (ans p) pre p
theorem Wl {ans:jn->BA×Int}{l:List jn}{p:jn}(h:l[k]?=some p)(h0:zF ans [] l=zF ans (l.take k) (l.drop k))(he:(Kj (ans p) (l.take k) p).2.2=0):zF ans [] l=zF ans (l.take (k+1)) (l.drop (k+1)):=by
 obtain⟨y,z⟩:=gS h;rw[h0,List.drop_eq_getElem_cons y,z,zF,if_pos he,tS y,z]
theorem JI {ans:jn->BA×Int}{l:List jn}{p:jn}(h:l[k]?=some p)(h0:zF ans [] l=zF ans (l.take k) (l.drop k))(he:(Kj (ans p) (l.take k) p).2.2≠0):zF ans [] l=Kj (ans p) (l.take k) p:=by
 obtain⟨y,z⟩:=gS h;rw[h0,List.drop_eq_getElem_cons y,z,zF,if_neg he]
theorem YJ {ans:jn->BA×Int}{l:List jn}(hk:l.length<=k)(h0:zF ans [] l=zF ans (l.take k) (l.drop k)):zF ans [] l=(⟨#[]⟩,⟨#[]⟩,0):=by
 rw[h0,List.drop_of_length_le hk];rfl
def uS (l:List jn)(k:Nat)(p:jn):Bool:=LZ (l.take k) p
theorem If (l:List jn)(p:jn):uS l 0 p=true:=by unfold uS LZ;simp
theorem TF {l:List jn}{q:jn}(p:jn)(h:l[k]?=some q):uS l (k+1) p=decide (bl q.nm<bl p.nm):=by
 obtain⟨y,z⟩:=gS h;unfold uS LZ;rw[tS y];simp[z]
theorem Rc {pre:List jn}{p:jn}(h:ans.2≠0):Kj ans pre p=(p.nm,ans.1,ans.2):=by unfold Kj;rw[if_pos h]
theorem YK {l:List jn}{p:jn}(h:ans.2=0)(ho:uS l k p=false):Kj ans (l.take k) p=(p.nm,⟨#[110,97,109,101]⟩,15):=by
 unfold Kj;unfold uS at ho;rw[if_neg (by simpa using h),if_pos ho]
theorem Wm {l:List jn}{p:jn}{x:jg}(h:ans.2=0)(ho:uS l k p=true)(hx:p.files[m]?=some x)(hn:∀ y∈p.files.take m,conf (l.take k) y=false)(hc:conf (l.take k) x=true):Kj ans (l.take k) p=(p.nm,x.path,8):=by
 unfold Kj;unfold uS at ho;rw[if_neg (by simpa using h),ho,if_neg (by simp)];have:p.files.find? (conf (l.take k))=some x:=by
  obtain⟨D,hx⟩:=gS hx;rw[<-List.take_append_drop m p.files,List.find?_append,List.find?_eq_none.2 (fun y z=>by rw[hn y z];simp),List.drop_eq_getElem_cons D,hx];simp[hc]
 rw[this]
theorem L3 {l:List jn}{p:jn}(h:ans.2=0)(ho:uS l k p=true)(hn:∀ y∈p.files,conf (l.take k) y=false):Kj ans (l.take k) p=(⟨#[]⟩,⟨#[]⟩,0):=by
 unfold Kj;unfold uS at ho;rw[if_neg (by simpa using h),ho,if_neg (by simp),List.find?_eq_none.2 (fun y z=>by rw[hn y z];simp)]
def BL (ans:jn->BA×Int)(fo:Bool)(l:List jn):BA×BA×Int:=
 if fo=false then (⟨#[]⟩,⟨#[102,111,114,109,97,116]⟩,9) else if 128<l.length then (⟨#[]⟩,⟨#[112,97,99,107,97,103,101,115]⟩,4) else zF ans [] l
def ZK (r:BA×BA×Int):Value:=.agg #[.string r.1,.string r.2.1,.int .i64 r.2.2]
structure zG (L:List jg) (f:BA->Option Value):Prop where
 dom:∀ s,f s=none->∀ y∈L,y.path≠s
 mem:∀ s v,f s=some v->(∃ y∈L,y.path=s)/\∀ y∈L,y.path=s->Nv y=v
theorem zG.nil:zG [] (fun _=>none):=⟨by simp,by simp⟩
theorem zG.put {L:List jg}(h:zG L f)(x:jg)(hx:f x.path=none\/f x.path=some (Nv x)):zG (L++[x]) (fun s=>if s=x.path then some (Nv x) else f s):=by
 refine⟨fun s K y D F=>?_,fun s v I=>?_⟩
 ·by_cases e:s=x.path
  ·simp only[if_pos e] at K;cases K
  ·simp only[if_neg e] at K;rcases List.mem_append.1 D with D | D
   ·exact h.dom s K y D F
   ·rw[List.mem_singleton.1 D] at F;exact e F.symm
 ·by_cases e:s=x.path
  ·simp only[if_pos e] at I;injection I with I;subst I;subst e;refine⟨⟨x,by simp,rfl⟩,fun y D F=>?_⟩;rcases List.mem_append.1 D with D | D
   ·rcases hx with hx | hx
    ·exact absurd F (h.dom _ hx y D)
    ·exact(h.mem _ _ hx).2 y D F
   ·rw[List.mem_singleton.1 D]
  ·simp only[if_neg e] at I;obtain⟨⟨y,D,F⟩,M⟩:=h.mem s v I;refine⟨⟨y,by simp[D],F⟩,fun z J H=>?_⟩;rcases List.mem_append.1 J with J | J
   ·exact M z J H
   ·rw[List.mem_singleton.1 J] at H;exact absurd H.symm e
def sw (l:List jn)(k:Nat)(fs:List jg):List jg:=(l.take k).flatMap jn.files++fs
theorem zG.fresh {l:List jn}{fs:List jg}(h:zG (sw l k fs) f){x:jg}(hx:f x.path=none):conf (l.take k) x=false:=by
 unfold conf;rw[List.any_eq_false];intro q F z;unfold Eg at z;cases e:yx q.files x.path with
 | none=>rw[e] at z;cases z
 | some y=>
  obtain⟨H,D⟩:=xe e;exact h.dom _ hx y (List.mem_append_left _ (List.mem_flatMap.2 ⟨q,F,H⟩)) D
theorem zG.same {l:List jn}{fs:List jg}(h:zG (sw l k fs) f){x:jg}(hx:f x.path=some (Nv x)):conf (l.take k) x=false:=by
 unfold conf;rw[List.any_eq_false];intro q F z;unfold Eg at z;cases e:yx q.files x.path with
 | none=>rw[e] at z;cases z
 | some y=>
  rw[e] at z;obtain⟨I,D⟩:=xe e;have:=(h.mem _ _ hx).2 y (List.mem_append_left _ (List.mem_flatMap.2 ⟨q,F,I⟩)) D;have H:=(ui y x).2 this;simp[H] at z
theorem zG.other {l:List jn}{fs:List jg}(h:zG (sw l k fs) f){x:jg}(hx:f x.path=some v)(hne:v≠Nv x)(hf:∀ y∈fs,y.path≠x.path):conf (l.take k) x=true:=by
 obtain⟨⟨y,D,I⟩,K⟩:=h.mem _ _ hx;rcases List.mem_append.1 D with D | D
 ·obtain⟨q,J,H⟩:=List.mem_flatMap.1 D;unfold conf;rw[List.any_eq_true];refine⟨q,J,?_⟩;unfold Eg;cases e:yx q.files x.path with
  | none=>exact absurd I (Pe e y H)
  | some z=>
   obtain⟨M,F⟩:=xe e;have N:=K z (List.mem_append_left _ (List.mem_flatMap.2 ⟨q,J,M⟩)) F;show(!uR z x)=true;cases ha:uR z x with
   | false=>rfl
   | true=>exact absurd (N.symm.trans ((ui z x).1 ha)) hne
 ·exact absurd I (hf y D)
theorem Ig {l:List jn}{p:jn}(h:l[k]?=some p):sw l (k+1) []=sw l k p.files:=by
 obtain⟨y,z⟩:=gS h;unfold sw;rw[tS y,z];simp
theorem TH (l:List jn)(k:Nat){fs:List jg}{x:jg}(h:fs[m]?=some x):sw l k (fs.take (m+1))=sw l k (fs.take m)++[x]:=by
 obtain⟨y,z⟩:=gS h;unfold sw;rw[tS y,z];simp
theorem L4 (l:List jn)(k:Nat)(p:jn)(m:Nat)(h:l[k]?=some p):(sw l k (p.files.take m)).length<=vL l:=by
 have key:∀ (L:List jn),(L.flatMap jn.files).length<=vL L:=by
  intro L
  induction L with
  | nil=>simp[vL]
  | cons a r ih=>
   have z:a.files.length<=my a.files:=by
    unfold my;generalize a.files=fs
    induction fs with
    | nil=>simp
    | cons a r ih=>simp at *;omega
   unfold vL at ih |-;rw[List.flatMap_cons,List.length_append,List.map_cons,List.sum_cons];have H:sW a=mz a+kT a.needs+kT a.bars+mY a.gives+my a.files+mO a.scripts:=rfl;omega
 have F:=key (l.take (k+1));have D:(sw l k (p.files.take m)).length<=((l.take (k+1)).flatMap jn.files).length:=by
  have e:=Ig h;have y:sw l (k+1) []=(l.take (k+1)).flatMap jn.files:=by unfold sw;simp
  rw[<-y,e];unfold sw;rw[List.length_append,List.length_append,List.length_take];omega
 have z:vL (l.take (k+1))<=vL l:=by
  have e:vL l=vL (l.take (k+1))+vL (l.drop (k+1)):=by
   unfold vL;rw[<-List.sum_append,<-List.map_append,List.take_append_drop]
  omega
 omega
theorem L5 {fs:List jg}(h:(kR fmt fs).2=0):(kC fs).Pairwise (fun s t=>bl s<bl t):=by
 unfold kR at h;split at h
 ·simp at h
 ·have key:∀ (r y:List jg),(∃ g,yv y g)->((lj fmt y r).getD (⟨#[]⟩,0)).2=0->(kC (y++r)).Pairwise (fun s t=>bl s<bl t):=by
   intro r
   induction r with
   | nil=>rintro y ⟨g,D⟩ _;simpa using D.sorted
   | cons a r ih=>
    rintro y ⟨g,D⟩ h;rw[lj] at h;by_cases z:rb fmt y a=0
    ·rw[if_pos z] at h;have F:pC y.getLast? a=true:=by
      unfold rb at z;cases e1:(rK (bl a.path)&&rG (bl a.path)) with
      | false=>rw[e1] at z;simp at z
      | true=>
       cases e2:pC y.getLast? a with
       | false=>rw[e1,e2] at z;simp at z
       | true=>rfl
     have:=ih (y++[a]) ⟨_,D.put F⟩ h;simpa using this
    ·rw[if_neg z] at h;exact absurd h z
  have:=key fs [] ⟨_,yv.nil⟩ h;simpa using this
theorem TI {fs:List jg}(h:(kC fs).Pairwise (fun s t=>bl s<bl t)){x:jg}(hx:fs[m]?=some x):∀ y∈fs.take m,y.path≠x.path:=by
 intro y D z;obtain⟨F,hx⟩:=gS hx;have e:kC fs=kC (fs.take m)++kC (fs.drop m):=by unfold kC;rw[<-List.map_append,List.take_append_drop]
 rw[e,List.pairwise_append] at h;have:=h.2.2 y.path (List.mem_map.2 ⟨y,D,rfl⟩) x.path (by rw[List.drop_eq_getElem_cons F,hx];simp[kC]);rw[z] at this;exact uJ _ this
end
section
open Go.RowKit Go.Deep
open Go.RowKit
open Go.RowKit Go.Maps
def ZL (nm:BA)(r:BA×Int):Value:=if r.2=0 then oU ⟨#[]⟩ ⟨#[]⟩ 0 else oU nm r.1 r.2
theorem Wn (nm what:BA):ZL nm (what,0)=.agg #[.string ⟨#[]⟩,.string ⟨#[]⟩,.int .i64 0]:=rfl
theorem Wo (nm what:BA){c:Int}(h:c≠0):ZL nm (what,c)=.agg #[.string nm,.string what,.int .i64 c]:=by unfold ZL;rw[if_neg h];rfl
structure RC (w wr:World):Prop where
 bel:Below w.heap.size w wr
 res:jh wr w.heap.size [.string ⟨#[]⟩,.string ⟨#[]⟩,.int .i64 0]
theorem RC.step (h:RC w wr)(hb:Below wr.heap.size wr w'):RC w w':=⟨jc h.bel hb,h.res.below hb⟩
theorem RC.alloc (h:RC w wr)(o:Obj):RC w (wr.alloc o):=h.step (bR.alloc lr o)
theorem RC.start (w:World):RC w (w.alloc (.cells #[.string ⟨#[]⟩,.string ⟨#[]⟩,.int .i64 0] 49)):=
 ⟨bR.alloc lr _,jh.new w [.string ⟨#[]⟩,.string ⟨#[]⟩,.int .i64 0] _⟩
theorem RC.done (h:RC w wr)(a b c:Value):Below w.heap.size w (((wr.setCell ⟨w.heap.size,0,none⟩ a).setCell ⟨w.heap.size,1,none⟩ b).setCell ⟨w.heap.size,2,none⟩ c):=
 jb (jb (jb h.bel lr _) lr _) lr _
theorem abm {p:jn}(h:∀ (j:Nat)(u:Value),p.cells[j]?=some u->w.cell? ⟨b,o+j,none⟩=some u):
  w.cell? ⟨b,o,none⟩=some (.string p.nm)/\w.cell? ⟨b,o+1,none⟩=some (.string p.ver)/\w.cell? ⟨b,o+2,none⟩=some (.string p.ar)/\w.cell? ⟨b,o+3,none⟩=some (.string p.sm)/\w.cell? ⟨b,o+4,none⟩=some (.slice p.na p.needs.length p.nc)/\w.cell? ⟨b,o+5,none⟩=some (.slice p.ba p.bars.length p.bc)/\w.cell? ⟨b,o+6,none⟩=some (.slice p.ga p.gives.length p.gc)/\w.cell? ⟨b,o+7,none⟩=some (.slice p.fa p.files.length p.fc)/\w.cell? ⟨b,o+8,none⟩=some (.slice p.sa p.scripts.length p.sc):=
 ⟨h 0 _ rfl,h 1 _ rfl,h 2 _ rfl,h 3 _ rfl,h 4 _ rfl,h 5 _ rfl,h 6 _ rfl,h 7 _ rfl,h 8 _ rfl⟩
def At8 (w:World)(b o:Nat)(x:jg):Prop:=
 w.cell? ⟨b,o,none⟩=some (.string x.path)/\w.cell? ⟨b,o+1,none⟩=some (.int .i64 x.kind)/\w.cell? ⟨b,o+2,none⟩=some (.int .i64 x.mode)/\w.cell? ⟨b,o+3,none⟩=some (.string x.owner)/\w.cell? ⟨b,o+4,none⟩=some (.string x.group)/\w.cell? ⟨b,o+5,none⟩=some (.string x.link)/\w.cell? ⟨b,o+6,none⟩=some (.string x.sum)/\w.cell? ⟨b,o+7,none⟩=some (.bool x.conf)
theorem aa1 {x:jg}(h:∀ (j:Nat)(u:Value),x.cells[j]?=some u->w.cell? ⟨b,o+j,none⟩=some u):At8 w b o x:=
 ⟨h 0 _ rfl,h 1 _ rfl,h 2 _ rfl,h 3 _ rfl,h 4 _ rfl,h 5 _ rfl,h 6 _ rfl,h 7 _ rfl⟩
theorem RC.six (h:RC w wr):wr.cell? ⟨w.heap.size,0,none⟩=some (.string ⟨#[]⟩)/\wr.cell? ⟨w.heap.size,1,none⟩=some (.string ⟨#[]⟩)/\wr.cell? ⟨w.heap.size,2,none⟩=some (.int .i64 0)/\wr.frozen? ⟨w.heap.size,0,none⟩=false/\wr.frozen? ⟨w.heap.size,1,none⟩=false/\wr.frozen? ⟨w.heap.size,2,none⟩=false:=
 ⟨h.res.cell 0 _ rfl,h.res.cell 1 _ rfl,h.res.cell 2 _ rfl,h.res.free 0 (by simp),h.res.free 1 (by simp),h.res.free 2 (by simp)⟩
theorem Wp {ans:jn->BA×Int}{l:List jn}(h:fo=false):ZK (BL ans fo l)=.agg #[.string ⟨#[]⟩,.string ⟨#[102,111,114,109,97,116]⟩,.int .i64 9]:=by unfold BL;rw[if_pos h];rfl
theorem TJ {ans:jn->BA×Int}{l:List jn}(h:fo=true)(hl:128<l.length):ZK (BL ans fo l)=.agg #[.string ⟨#[]⟩,.string ⟨#[112,97,99,107,97,103,101,115]⟩,.int .i64 4]:=by unfold BL;rw[if_neg (by rw[h];simp),if_pos hl];rfl
theorem Wq {ans:jn->BA×Int}{l:List jn}(h:fo=true)(hl:¬ 128<l.length):BL ans fo l=zF ans [] l:=by unfold BL;rw[if_neg (by rw[h];simp),if_neg hl]
theorem Pf (x y:jg)(w:World):(binOp .neq 96 (.agg #[.int .i64 x.kind,.int .i64 x.mode,.string x.owner,.string x.group,.string x.link]) (.agg #[.int .i64 y.kind,.int .i64 y.mode,.string y.owner,.string y.group,.string y.link])).run Tryz.prog w=.ok (.bool (!uR x y)) w:=by
 go_simp;unfold uR
 (repeat' split)<;>simp_all
theorem L6 (w:World):(zeroValue 96).run Tryz.prog w=.ok (.agg #[.int .i64 0,.int .i64 0,.string ⟨#[]⟩,.string ⟨#[]⟩,.string ⟨#[]⟩]) w:=by kernel_rfl
structure MC (w wr:World) (L:List jg) (f:BA->Option Value):Prop where
 rc:RC w wr
 map:lG wr (w.heap.size+1) L.length f
 inv:zG L f
 sz:w.heap.size+2<=wr.heap.size
theorem MC.step {L:List jg}(h:MC w wr L f)(hb:Below wr.heap.size wr w'):MC w w' L f:=⟨h.rc.step hb,h.map.below hb,h.inv,Nat.le_trans h.sz hb.size⟩
theorem MC.start (w:World):MC w ((w.alloc (.cells #[.string ⟨#[]⟩,.string ⟨#[]⟩,.int .i64 0] 49)).alloc (.map #[] 0)) [] (fun _=>none):=
 ⟨(RC.start w).alloc _,by have:=lG.made (w.alloc (.cells #[.string ⟨#[]⟩,.string ⟨#[]⟩,.int .i64 0] 49));simpa using this,zG.nil,by simp⟩
theorem jh.grownC {c:Nat}{vs:List Value}(h:jh wr c vs)(hg:wr.grownBy w' (some b))(hne:c≠b):jh w' c vs:=by
 have y:w'.heap[c]?=wr.heap[c]?:=hg.block c h.sz (by intro e;injection e with e;exact hne e);refine⟨Nat.lt_of_lt_of_le h.sz hg.size,fun j u D=>?_,fun j z=>?_⟩
 ·exact(World.cell?_of_block (a:=⟨c,j,none⟩) y).trans (h.cell j u D)
 ·exact(World.frozen?_of_block (a:=⟨c,j,none⟩) y).trans (h.free j z)
theorem MC.put {L:List jg}{x:jg}(h:MC w wr L f)(hx:f x.path=none\/f x.path=some (Nv x))(hm:lG w' (w.heap.size+1) (L.length+1) (fun s=>if s=x.path then some (Nv x) else f s))(hg:wr.grownBy w' (some (w.heap.size+1))):MC w w' (L++[x]) (fun s=>if s=x.path then some (Nv x) else f s):=
 ⟨⟨h.rc.bel.grown hg h.rc.bel.size (fun j y=>by injection y with y;omega),h.rc.res.grownC hg (by omega)⟩,by rw[List.length_append];exact hm,h.inv.put x hx,Nat.le_trans h.sz hg.size⟩
theorem MC.look {L:List jg}(h:MC w wr L f)(s:BA)(hs:s.size<=maxLen):
  ∃ (z:jg) (b:Bool),(Instr.lookup 93 (.map (some (w.heap.size+1))) (.string s) true).run Tryz.prog wr=.ok (.tuple #[.agg #[.int .i64 z.kind,.int .i64 z.mode,.string z.owner,.string z.group,.string z.link],.bool b]) wr/\(b=false->f s=none)/\(b=true->f s=some (Nv z)):=by
 have D:=h.map.look_ok Tryz.underlying93 L6 s hs;cases hf:f s with
 | none=>
  rw[hf] at D;exact⟨⟨⟨#[]⟩,0,0,⟨#[]⟩,⟨#[]⟩,⟨#[]⟩,⟨#[]⟩,false⟩,false,D,fun _=>rfl,(fun h=>by cases h)⟩
 | some v=>
  rw[hf] at D;obtain⟨⟨y,I,F⟩,H⟩:=h.inv.mem s v hf;have J:=H y I F;subst J;exact⟨y,true,D,(fun h=>by cases h),fun _=>rfl⟩
theorem zH {tmps:Array Value}{w2:World}(h:RC w w2)(ht:tmps[4]?=some (.pointer (some ⟨w.heap.size,0,none⟩)))(a b:BA)(c:Int):
  (results Tryz.f17 tmps).run Tryz.prog (((w2.setCell ⟨w.heap.size,0,none⟩ (.string a)).setCell ⟨w.heap.size,1,none⟩ (.string b)).setCell ⟨w.heap.size,2,none⟩ (.int .i64 c)) =
   .ok (.agg #[.string a,.string b,.int .i64 c]) (((w2.setCell ⟨w.heap.size,0,none⟩ (.string a)).setCell ⟨w.heap.size,1,none⟩ (.string b)).setCell ⟨w.heap.size,2,none⟩ (.int .i64 c)):=by
 obtain⟨I,z,F,H,y,D⟩:=h.six;simp[results,Tryz.results17,ht,go_sem,I,z,F]
theorem Eh (fmt:Int)(F:jn->BA×Int)(A:Option Addr)(c:Nat)(l:List jn)(w:World)(hG:Gl w)(hd:tU w A l)(hl:l.length<=100000)(hwd:vL l<=10000000)(hs:∀ p∈l,p.files.length<=1000000/\∀ x∈p.files,x.path.size<=1000000)(hC:∀ p∈l,∀ W,Below w.heap.size w W->p.ok W->Calls Tryz.prog 34 #[.int .i64 fmt,p.val] W fun e w'=>e=.returned (ZL p.nm (F p))/\Below W.heap.size W w')(hFZ:∀ p∈l,(F p).2=0->(kR fmt p.files).2=0):Calls Tryz.prog 17 #[.int .i64 fmt,.slice A l.length c] w fun e w'=>e=.returned (ZK (BL F (pN fmt) l))/\Below w.heap.size w w':=by
 have HG:=iV hG;have HD:=iV hd;have HS:=iV hs;have aJ:=iV hC;have aL:=iV hFZ;have aQ:=iV hwd;clear hG hd hs hwd hC hFZ;have R0:=iV (RC.start w);obtain⟨W0,ac⟩:∃ W0,w.alloc (.cells #[.string ⟨#[]⟩,.string ⟨#[]⟩,.int .i64 0] 49)=W0:=⟨_,rfl⟩
 have O:Hid (RC w W0):=by show RC w W0;rw[<-ac];exact R0.out
 have M0:Hid (MC w (W0.alloc (.map #[] 0)) [] (fun _=>none)):=by show MC _ _ _ _;rw[<-ac];exact MC.start w
 have Z0:Hid (W0.heap.size=w.heap.size+1):=by show _=_;rw[<-ac];simp
 have hI:=fun W=>oy fmt W;cases hfm:pN fmt with
 | false=>
  have E:Hid (ZK (BL F false l)=_):=Wp rfl;obtain⟨r0,r1,r2,X,aa,Z⟩:=O.out.six;rw[hfm] at hI;clear hfm R0;go_in;go_wp2_with fail;refine(hI _).mono ?_;rintro e w' ⟨rfl,rfl⟩;go_wp2_with fail;exact bodyPost_ret (zH O.out rfl _ _ _) rfl ⟨by rw[E.out],O.out.done _ _ _⟩
 | true=>
 rw[hfm] at hI;clear hfm R0;by_cases H:128<l.length
 ·have d8:decide ((128:Int)<l.length)=true:=dT (by omega);have al:decide (128<l.length)=true:=dT H;have E:Hid (ZK (BL F true l)=_):=TJ rfl H;obtain⟨r0,r1,r2,X,aa,Z⟩:=O.out.six;clear H;go_in;go_wp2_with fail;refine(hI _).mono ?_;rintro e w' ⟨rfl,rfl⟩;go_wp2_with fail;exact bodyPost_ret (zH O.out rfl _ _ _) rfl ⟨by rw[E.out],O.out.done _ _ _⟩
 have d8:decide ((128:Int)<l.length)=false:=dF (by omega);have al:decide (128<l.length)=false:=dF H;have E0:Hid (BL F true l=zF F [] l):=Wq rfl H;clear H O;rw[E0.out];have aP:=@run_makeMap Tryz.prog;go_in;go_wp2_with fail;refine(hI _).mono ?_;rintro e w' ⟨rfl,rfl⟩;go_wp2_with fail;clear aP ac d8 al hI;rw[Z0.out];go_loopw [25] (fun i wr=>∃ (k:Nat) (f:BA->Option Value),k<=l.length/\i=.int .i64 k/\Hid (zF F [] l=zF F (l.take k) (l.drop k))/\Hid (MC w wr (sw l k []) f)) (fun i _=>l.length-(intOf i).toNat)
 case atStart=>exact⟨0,_,z0,rfl,rfl,iV (by simpa [sw] using M0.out)⟩
 case round=>
  clear M0 Z0;obtain⟨k,f,hk,rfl,HE,R⟩:=hrel;by_cases au:k<l.length
  ·obtain⟨p,hp⟩:∃ p,l[k]?=some p:=⟨_,gG au⟩
   have aC:p∈l:=gM hp;have HP:=iV hp;have N:=iV aC;clear hp aC;obtain⟨b,off,hA,he⟩:=(HD.out.row.below R.out.rc.bel).elem mX k p HP.out;obtain⟨e0,e1,e2,e3,e4,e5,e6,e7,e8⟩:=abm he;have aE:=fun W=>jm (T:=22) (E:=38) (sz:=9) (c:=c) Tryz.underlying22 rfl Tryz.sizeOf38 hA au W;have HA:=iV hA;clear hA he;have Ra:=iV (R.out.step (bR.alloc lr (.cells #[.string p.nm,.string p.ver,.string p.ar,.string p.sm,.slice p.na p.needs.length p.nc,.slice p.ba p.bars.length p.bc,.slice p.ga p.gives.length p.gc,.slice p.fa p.files.length p.fc,.slice p.sa p.scripts.length p.sc] 38)));have Ka:=iV (jh.new wr p.cells 38);obtain⟨W1,ad⟩:∃ W1,wr.alloc (.cells #[.string p.nm,.string p.ver,.string p.ar,.string p.sm,.slice p.na p.needs.length p.nc,.slice p.ba p.bars.length p.bc,.slice p.ga p.gives.length p.gc,.slice p.fa p.files.length p.fc,.slice p.sa p.scripts.length p.sc] 38)=W1:=⟨_,rfl⟩
   have Rb:Hid (MC w W1 (sw l k []) f):=by show MC _ W1 _ _;rw[<-ad];exact Ra.out
   have Kb:Hid (jh W1 wr.heap.size p.cells):=by show jh W1 _ _;rw[<-ad];exact Ka.out
   have k0:=Kb.out.cell 0 _ rfl;have k1:=Kb.out.cell 1 _ rfl;have k2:=Kb.out.cell 2 _ rfl;have k3:=Kb.out.cell 3 _ rfl;have k4:=Kb.out.cell 4 _ rfl;have k5:=Kb.out.cell 5 _ rfl;have k6:=Kb.out.cell 6 _ rfl;have k7:=Kb.out.cell 7 _ rfl;have k8:=Kb.out.cell 8 _ rfl;clear Ra Ka;have HC:=iV fun (W:World) (g:Below w.heap.size w W) (h:p.ok W)=>aJ.out p N.out W g h;obtain⟨⟨I,D⟩,hr⟩:∃ r,F p=r:=⟨_,rfl⟩
   have HQ:=iV hr;clear hr;rw[HQ.out] at HC;by_cases hc:¬ D=0
   ·rw[Wo _ _ hc] at HC;have q1:(D != 0)=true:=by simp[hc]
    have E:Hid (zF F [] l=(p.nm,I,D)):=by
     have h1:=Rc (pre:=l.take k) (p:=p) (ans:=(I,D)) hc;show _=_;rw[JI HP.out HE.out (by rw[HQ.out,h1];exact hc),HQ.out,h1]
    clear hc;go_wp2_with fail;refine(HC.out W1 Rb.out.rc.bel ((HD.out.all p N.out).below Rb.out.rc.bel)).mono ?_;rintro e w1 ⟨rfl,V⟩;have R1:=iV ((Rb.out.step V).rc.alloc (.cells #[.string p.nm,.string I,.int .i64 D] 49));have K1:=iV (jh.new w1 [.string p.nm,.string I,.int .i64 D] 49);clear V e0 e1 e2 e3 e4 e5 e6 e7 e8 aE k0 k1 k2 k3 k4 k5 k6 k7 k8 ad;obtain⟨U,M⟩:∃ U,w1.alloc (.cells #[.string p.nm,.string I,.int .i64 D] 49)=U:=⟨_,rfl⟩
    have J:Hid (RC w U):=by show RC w U;rw[<-M];exact R1.out
    have K:Hid (jh U w1.heap.size [.string p.nm,.string I,.int .i64 D]):=by show jh U _ _;rw[<-M];exact K1.out
    have k0:=K.out.cell 0 _ rfl;have k1:=K.out.cell 1 _ rfl;have k2:=K.out.cell 2 _ rfl;obtain⟨r0,r1,r2,X,aa,Z⟩:=J.out.six;clear R1 K1;go_wp2_with fail;exact bodyPost_ret (zH J.out rfl _ _ _) rfl ⟨by rw[E.out];rfl,J.out.done _ _ _⟩
   obtain rfl:D=0:=Decidable.not_not.1 hc;clear hc;rw[Wn] at HC;have A0:Hid ((F p).2=0):=by show _=_;rw[HQ.out]
   go_wp2_with fail;clear ad;refine(HC.out W1 Rb.out.rc.bel ((HD.out.all p N.out).below Rb.out.rc.bel)).mono ?_;rintro e w1 ⟨rfl,V⟩;have R1:=iV ((Rb.out.step V).step (bR.alloc lr (.cells #[.string ⟨#[]⟩,.string ⟨#[]⟩,.int .i64 0] 49)));have K1:=iV ((Kb.out.below V).alloc (.cells #[.string ⟨#[]⟩,.string ⟨#[]⟩,.int .i64 0] 49));have aR:Hid (w.heap.size+2<=wr.heap.size):=R.out.sz;clear V e0 e1 e2 e3 e4 e5 e6 e7 e8 k0 k1 k2 k3 k4 k5 k6 k7 k8 HC aE Rb Kb R;generalize wr.heap.size=pb at *;go_upto_region 12 with(fail)
   obtain⟨U,M⟩:∃ U,w1.alloc (.cells #[.string ⟨#[]⟩,.string ⟨#[]⟩,.int .i64 0] 49)=U:=⟨_,rfl⟩
   have J:Hid (MC w U (sw l k []) f):=by show MC _ U _ _;rw[<-M];exact R1.out
   have K:Hid (jh U pb p.cells):=by show jh U _ _;rw[<-M];exact K1.out
   rw[M];clear R1 K1 M;go_cut [49] (fun aO wx=>∃ bb:Bool,aO=.bool bb/\Hid (bb=!uS l k p)/\Hid (MC w wx (sw l k []) f)/\Hid (jh wx pb p.cells))
   case first=>
    by_cases k0:k=0
    ·have aU:decide (0<(k:Int))=false:=dF (by omega);have aN:decide (0<k)=false:=dF (by omega);have OB:Hid (false=!uS l k p):=by show _=_;rw[k0,If];rfl
     clear k0;go_quiet (fail);go_wp2;go_meet;exact⟨false,rfl,OB,J.out.step (jj bR _),K.out.drewN _⟩
    ·have aU:decide (0<(k:Int))=true:=dT (by omega);have aN:decide (0<k)=true:=dT (by omega);have aW:0<k:=by omega
     obtain⟨q,hq⟩:∃ q,l[k-1]?=some q:=⟨_,gG (by omega)⟩
     obtain⟨b2,aX,ax,am⟩:=(HD.out.row.below J.out.rc.bel).elem mX (k-1) q hq;have n0:=K.out.cell 0 _ rfl;have p0:=am 0 _ rfl;simp only[Nat.add_zero] at p0;have aY:=fun W=>BZ (T:=22) (E:=38) (sz:=9) (c:=c) (i:=(k:Int)-1) Tryz.underlying22 rfl Tryz.sizeOf38 (by omega) ax (show k-1<l.length by omega) W;have OB:Hid ((Op.bytesLess p.nm.toList q.nm.toList||p.nm.toList==q.nm.toList)=!uS l k p):=by
      show _=_;have:=TF (l:=l) (k:=k-1) p hq;rw[show k-1+1=k by omega] at this;rw[this];exact Wk p.nm q.nm
     have iw:IntKind.i64.wrap ((k:Int)-1)=(k:Int)-1:=IntWalk.i64_in _ (by omega);clear hq am ax k0;go_quiet (fail);go_wp2;go_meet;exact⟨_,rfl,OB,J.out.step (jj bR _),K.out.drewN _⟩
   case rest=>
   clear J K;obtain⟨bb,rfl,ai,ab,ae⟩:=hcut;cases bb
   case true=>
    have HO:Hid (uS l k p=false):=by have:=ai.out;show _=_;revert this;cases uS l k p<;>simp
    have E:Hid (zF F [] l=(p.nm,⟨#[110,97,109,101]⟩,15)):=by
     have h1:=YK (ans:=F p) A0.out HO.out;show _=_;rw[JI HP.out HE.out (by rw[h1];simp),h1]
    have n0:=ae.out.cell 0 _ rfl;obtain⟨r0,r1,r2,X,aa,Z⟩:=ab.out.rc.six;go_wp2_with fail;exact bodyPost_ret (zH ab.out.rc rfl _ _ _) rfl ⟨by rw[E.out];rfl,ab.out.rc.done _ _ _⟩
   have HO:Hid (uS l k p=true):=by have:=ai.out;show _=_;revert this;cases uS l k p<;>simp
   clear ai;have aF:Hid ((kC p.files).Pairwise (fun s t=>bl s<bl t)):=L5 (fmt:=fmt) (aL.out p N.out A0.out);have fl:=(HS.out p N.out).1;have n7:=ae.out.cell 7 _ rfl;go_wp2_with fail;clear n7;go_loopw [56] (fun i wr=>∃ (m:Nat) (f:BA->Option Value),m<=p.files.length/\i=.int .i64 m/\Hid (∀ y∈p.files.take m,conf (l.take k) y=false)/\Hid (MC w wr (sw l k (p.files.take m)) f)/\Hid (jh wr pb p.cells)) (fun i _=>p.files.length-(intOf i).toNat)
   case atStart=>exact⟨0,f,z0,rfl,by simp[Hid],ab,ae⟩
   case round=>
    clear ab ae;obtain⟨m,f,hm,rfl,HN,R,HK⟩:=hrel;by_cases ak:m<p.files.length
    ·obtain⟨x,hx⟩:∃ x,p.files[m]?=some x:=⟨_,gG ak⟩
     have aq:Hid (x.path.size<=maxLen):=by
      have:=((HS.out p N.out).2 x (gM hx))
      show _<=_;unfold maxLen;omega
     obtain⟨b',aV,ap,aB⟩:=((HD.out.all p N.out).below R.out.rc.bel).files.elem nS m x hx;obtain⟨f0,f1,f2,f3,f4,f5,f6,f7⟩:=aa1 aB;have aA:=fun W=>jm (T:=35) (E:=57) (sz:=8) (c:=p.fc) Tryz.underlying35 rfl Tryz.sizeOf57 ap ak W;have HX:=iV hx;clear hx ap aB;obtain⟨W3,ag⟩:∃ W3,wr.alloc (.cells #[.string x.path,.int .i64 x.kind,.int .i64 x.mode,.string x.owner,.string x.group,.string x.link,.string x.sum,.bool x.conf] 57)=W3:=⟨_,rfl⟩
     have B3:Hid (Below wr.heap.size wr W3):=by rw[<-ag];exact bR.alloc lr _
     have K3:Hid (jh W3 wr.heap.size x.cells):=by rw[<-ag];exact jh.new wr x.cells _
     obtain⟨W4,aj⟩:∃ W4,W3.alloc (.cells #[.int .i64 x.kind,.int .i64 x.mode,.string x.owner,.string x.group,.string x.link] 96)=W4:=⟨_,rfl⟩
     have B4:Hid (Below W3.heap.size W3 W4):=by rw[<-aj];exact bR.alloc lr _
     have S4:Hid (jh W4 W3.heap.size [.int .i64 x.kind,.int .i64 x.mode,.string x.owner,.string x.group,.string x.link]):=by rw[<-aj];exact jh.new W3 [.int .i64 x.kind,.int .i64 x.mode,.string x.owner,.string x.group,.string x.link] _
     have M4:=iV ((R.out.step B3.out).step B4.out);have P4:=iV ((HK.out.below B3.out).below B4.out);have X4:=iV (K3.out.below B4.out);obtain⟨z,there,aI,an,ao⟩:=M4.out.look x.path aq.out;have av:=iV an;have aD:=iV ao;clear an ao;have g0:=K3.out.cell 0 _ rfl;have g1:=K3.out.cell 1 _ rfl;have g2:=K3.out.cell 2 _ rfl;have g3:=K3.out.cell 3 _ rfl;have g4:=K3.out.cell 4 _ rfl;have g5:=K3.out.cell 5 _ rfl;have v0:=X4.out.cell 0 _ rfl;obtain⟨W5,ah⟩:∃ W5,W4.alloc (.cells #[.int .i64 z.kind,.int .i64 z.mode,.string z.owner,.string z.group,.string z.link] 96)=W5:=⟨_,rfl⟩
     have B5:Hid (Below W4.heap.size W4 W5):=by rw[<-ah];exact bR.alloc lr _
     have Z5:Hid (jh W5 W4.heap.size [.int .i64 z.kind,.int .i64 z.mode,.string z.owner,.string z.group,.string z.link]):=by rw[<-ah];exact jh.new W4 [.int .i64 z.kind,.int .i64 z.mode,.string z.owner,.string z.group,.string z.link] _
     go_upto_region 19 with(fail)
     have M5:=iV (M4.out.step B5.out);have P5:=iV (P4.out.below B5.out);have X5:=iV (X4.out.below B5.out);have S5:=iV (S4.out.below B5.out);have aZ:Hid (w.heap.size+2<=wr.heap.size/\pb<wr.heap.size):=⟨R.out.sz,HK.out.sz⟩
     clear f0 f1 f2 f3 f4 f5 f6 f7 g0 g1 g2 g3 g4 g5 v0 aA aI ag aj ah M4 P4 X4 S4 B3 B4 B5 K3 R HK;generalize wr.heap.size=xb at *;generalize W3.heap.size=sb at *;generalize W4.heap.size=zb at *;go_cut [83] (fun aM wx=>∃ bb:Bool,aM=.bool bb/\Hid (bb=conf (l.take k) x)/\Hid (bb=false->f x.path=none\/f x.path=some (Nv x))/\wx=W5)
     case first=>
      have nq:=fun W=>Pf z x W;have u0:=Z5.out.cell 0 _ rfl;have u1:=Z5.out.cell 1 _ rfl;have u2:=Z5.out.cell 2 _ rfl;have u3:=Z5.out.cell 3 _ rfl;have u4:=Z5.out.cell 4 _ rfl;have v0:=S5.out.cell 0 _ rfl;have v1:=S5.out.cell 1 _ rfl;have v2:=S5.out.cell 2 _ rfl;have v3:=S5.out.cell 3 _ rfl;have v4:=S5.out.cell 4 _ rfl;cases there
      ·have C0:Hid (false=conf (l.take k) x):=(M5.out.inv.fresh (av.out (by trivial))).symm;go_wp2;go_meet;exact⟨false,rfl,C0,fun _=>.inl (av.out (by trivial)),rfl⟩
      ·cases hzx:uR z x
       ·have C0:Hid (true=conf (l.take k) x):=(M5.out.inv.other (aD.out (by trivial)) (fun e=>by rw[(ui z x).2 e] at hzx;cases hzx) (TI aF.out HX.out)).symm;rw[hzx] at nq;clear hzx;go_wp2;go_meet;exact⟨true,rfl,C0,(fun h=>by cases h),rfl⟩
       ·have C1:Hid (f x.path=some (Nv x)):=by show _=_;rw[aD.out (by trivial),(ui z x).1 hzx]
        have C0:Hid (false=conf (l.take k) x):=(M5.out.inv.same C1.out).symm;rw[hzx] at nq;clear hzx;go_wp2;go_meet;exact⟨false,rfl,C0,fun _=>.inr C1.out,rfl⟩
     case rest=>
     obtain⟨bb,rfl,az,aK,rfl⟩:=hcut;have x0:=X5.out.cell 0 _ rfl;cases bb
     case true=>
      have E:Hid (zF F [] l=(p.nm,x.path,8)):=by
       have h1:=Wm (ans:=F p) A0.out HO.out HX.out HN.out az.out.symm;show _=_;rw[JI HP.out HE.out (by rw[h1];simp),h1]
      have n0:=P5.out.cell 0 _ rfl;obtain⟨r0,r1,r2,X,aa,Z⟩:=M5.out.rc.six;go_wp2_with fail;exact bodyPost_ret (zH M5.out.rc rfl _ _ _) rfl ⟨by rw[E.out];rfl,M5.out.rc.done _ _ _⟩
     have v0:=S5.out.cell 0 _ rfl;have v1:=S5.out.cell 1 _ rfl;have v2:=S5.out.cell 2 _ rfl;have v3:=S5.out.cell 3 _ rfl;have v4:=S5.out.cell 4 _ rfl;have aH:=L4 l k p m HP.out;have aT:Hid (vL l<=10000000):=aQ;obtain⟨w6,Y,ay,af⟩:=M5.out.map.put Tryz.underlying93 (by have:=aT.out;unfold maxLen;omega) x.path aq.out (Nv x);have M6:=iV (M5.out.put (aK.out rfl) ay af);have P6:=iV (P5.out.grownC af (by have:=aR.out;omega));unfold Nv at Y;clear ay af aH;go_wp2_with fail;clear Y v0 v1 v2 v3 v4 x0;go_roundw
     case rel=>exact⟨m+1,_,by omega,by go_num,iV (fun z hz=>by
      obtain⟨aG,aS⟩:=gS HX.out;rw[tS aG,aS] at hz;rcases List.mem_append.1 hz with hz | hz
      ·exact HN.out z hz
      ·rw[List.mem_singleton.1 hz];exact az.out.symm),iV (by rw[TH l k HX.out];exact M6.out),P6⟩
     case measure=>simp[intOf];omega
    ·have F:Hid ((Kj (F p) (l.take k) p).2.2=0):=by
      show _=_;rw[L3 A0.out HO.out (fun y hy=>HN.out y (by rw[tL (by omega)];exact hy))]
     have CN:Hid (sw l (k+1) []=sw l k (p.files.take m)):=by show _=_;rw[Ig HP.out,tL (by omega)]
     go_wp2;go_roundw
     case rel=>exact⟨k+1,f,by omega,by go_num,iV (Wl HP.out HE.out F.out),iV (by rw[CN.out];exact R.out)⟩
     case measure=>simp[intOf];omega
  ·have E:=iV (YJ (ans:=F) (l:=l) (k:=k) (by omega) HE.out);obtain⟨r0,r1,r2,X,aa,Z⟩:=R.out.rc.six;go_wp2_with fail;exact bodyPost_ret (zH R.out.rc rfl _ _ _) rfl ⟨by rw[E.out];rfl,R.out.rc.done _ _ _⟩
end
section
open Go.RowKit
theorem yE (c:UInt8):∀ (l:LU),c∈l->∃ k:Nat,Lib.indexByte l c=k/\c ∉ l.take k/\l[k]?=some c
 | [],h=>by simp at h
 | b::r,h=>by
  by_cases z:b=c
  ·subst z;exact⟨0,by simp[Lib.indexByte],by simp,by simp⟩
  ·have F:c∈r:=by rcases List.mem_cons.1 h with h | h;exact absurd h.symm z;exact h
   obtain⟨k,H,D,I⟩:=yE c r F;refine⟨k+1,?_,?_,by simpa using I⟩
   ·have:(b==c)=false:=by simp[z]
    simp only[Lib.indexByte,this,H];rw[if_neg (by simp),if_neg (by simp;try omega)];rfl
   ·rw[List.take_succ_cons];intro y;rcases List.mem_cons.1 y with y | y;exact z y.symm;exact D y
theorem wl (c:UInt8):∀ (n:Nat)(l:LU),l.count c=n->Lib.splitK [c] 0 n l=lk c l
 | 0,l,h=>by
  rw[zK c l (List.count_eq_zero.1 h)];rfl
 | n+1,l,h=>by
  have K:c∈l:=List.count_pos_iff.1 (by omega);unfold Lib.splitK;rw[Lib.index_one];obtain⟨k,I,F,H⟩:=yE c l K;have y:k<l.length:=(gS H).1;have D:l=l.take k++c::l.drop (k+1):=by
   have J:l[k]=c:=(gS H).2
   conv=>lhs;rw[<-List.take_append_drop k l,List.drop_eq_getElem_cons y,J]
  have z:lk c l=l.take k::lk c (l.drop (k+1)):=by
   conv=>lhs;rw[D]
   exact xf c _ _ F
  rw[I,if_neg (by simp;try omega),z];have e:((k:Int)).toNat=k:=by omega
  rw[e];congr 1;simp only[List.length_singleton];refine wl c n (l.drop (k+1)) ?_;rw[D,List.count_append,List.count_eq_zero.2 F,List.count_cons_self] at h;simp at h |-;omega
def ni (c:UInt8)(s:BA):List BA:=(lk c (bl s)).map fun p=>(⟨p.toArray⟩:BA)
theorem wm (c:UInt8)(s:BA):Lib.splitB ⟨#[c]⟩ 0 (Lib.countB s ⟨#[c]⟩) s=ni c s:=by
 have h:=Lib.splitB_data ⟨#[c]⟩ 0 (Lib.countB s ⟨#[c]⟩) s;have y:Lib.countB s ⟨#[c]⟩=(bl s).count c:=by
  show Lib.count _ _=_;exact Lib.count_one c (bl s)
 have z:(Lib.splitB ⟨#[c]⟩ 0 (Lib.countB s ⟨#[c]⟩) s).map bl=lk c (bl s):=by
  refine Eq.trans h ?_;rw[y];exact wl c _ (bl s) rfl
 unfold ni;rw[<-z,AA]
theorem WE (c:UInt8)(s:BA)(w:World)(hG:Gl w)(hs:s.size<=4294967280):Calls Tryz.prog 133 #[.string s,.string ⟨#[c]⟩] w fun e w'=>e=.returned (.slice (some ⟨w.heap.size,0,none⟩) (ni c s).length (ni c s).length)/\Rd w' 1 (some ⟨w.heap.size,0,none⟩) (ni c s).length (strCells (ni c s))/\Below w.heap.size w w':=by
 obtain⟨m,H⟩:=hG.ml;refine(Tryz.strings_Split s ⟨#[c]⟩ m w (by omega) H (by simp[ByteArray.size])).mono fun e w' ⟨D,z⟩=>?_;have y:(ni c s).length=Lib.countB s ⟨#[c]⟩+1:=by
  rw[<-wm];exact Lib.splitB_all ⟨#[c]⟩ (by simp[ByteArray.size]) 0 _ s rfl
 rw[wm] at z;rw[y,z];refine⟨D,⟨by simp[strCells,y],fun _=>⟨_,0,rfl,fun j u F=>?_⟩⟩,bR.alloc lr _⟩;simpa [strCells] using F
theorem EH (c:UInt8):∀ (l:LU),(lk c l).length<=l.length+1
 | []=>by simp[lk]
 | a::r=>by
  have:=EH c r;unfold lk;split
  ·simp;omega
  ·simp;omega
theorem ul (c:UInt8):∀ (l p:LU),p∈lk c l->p.length<=l.length
 | [],p,h=>by simp[lk] at h;simp[h]
 | a::r,p,h=>by
  unfold lk at h;split at h
  ·rcases List.mem_cons.1 h with rfl | h
   ·simp
   ·have:=ul c r p h;simp;omega
  ·cases hr:lk c r with
   | nil=>exact absurd hr (Ii c r)
   | cons q qs=>
    rw[hr] at h;simp only[List.headD_cons,List.tail_cons] at h;rcases List.mem_cons.1 h with rfl | h
    ·have:=ul c r q (by rw[hr];simp);simp;omega
    ·have:=ul c r p (by rw[hr];exact List.mem_cons_of_mem _ h);simp;omega
theorem EI (l:LU):lI l=((lI l).toNat:Int)/\(lI l).toNat<=4611686018427387903:=by
 unfold lI Cx;split
 ·rename_i h;have y:=(Sc l l.length (by unfold wB at h;simp only[Bool.and_eq_true] at h;exact h.2)).1;rw[tL lr] at y;split
  ·constructor<;>omega
  ·simp
 ·simp
def mr (l:LU):Nat:=(lI l).toNat
theorem vB (s:BA)(w:World)(hs:s.size<=9223372036854775807):Calls Tryz.prog 87 #[.string s] w fun e w'=>e=.returned (.tuple #[.int .i64 (mr (bl s)),.int .i64 (ol (bl s))])/\w=w':=
 (qO s w hs).mono fun e w' ⟨y,z⟩=>⟨by rw[y];unfold qu mr;rw[<-(EI (bl s)).1],z⟩
theorem vC (l:LU):mr l<=4611686018427387903:=(EI l).2
end
end Go.Proofs.YtkmjcombhjombaaGreatDoor
