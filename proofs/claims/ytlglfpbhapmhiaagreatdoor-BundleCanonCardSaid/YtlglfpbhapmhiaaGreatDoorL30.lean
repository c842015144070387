/- A part of the proof. -/
import Derived.Shelf.SlSortCmp.NoneTotal
import Derived.Test.YtlglfpbhapmhiaaGreatDoorL11
import Derived.Test.YtlglfpbhapmhiaaGreatDoorL12
import Derived.Test.YtlglfpbhapmhiaaGreatDoorL13
import Derived.Test.YtlglfpbhapmhiaaGreatDoorL28
import Derived.Test.YtlglfpbhapmhiaaGreatDoorL29
set_option maxRecDepth 100000
set_option maxHeartbeats 20000000
set_option linter.unusedVariables false
set_option linter.unusedSimpArgs false
namespace Go.Proofs.YtlglfpbhapmhiaaGreatDoor
variable{g:BA->Option Value}{fmt:Int}{l m tl:LU}{vs:LV}{N b hb i j k kd n o s sz x:Nat}{A:OA}{E T:TypeId}{c:UInt8}{w w' wr:World}
section
open Go.RowKit
def av.val (f:av):Value:=.agg #[.string f.path,.int .i64 f.kind,.int .i64 f.mode,.string f.owner,.string f.group,.string f.link,.string f.sum,.bool f.conf]
def cy (fmt:Int)(f:av):Bool:=decide (0<=f.mode/\f.mode<=4095)&&eT fmt f.owner&&eT fmt f.group&&(if f.kind=3 then decide (f.mode=511)&&fY (bl f.link)&&decide (f.link.size<=200) else decide (f.link.size=0))&&(if f.kind=1 then Iy fmt f.sum&&(!f.conf||decide (fmt≠3)) else decide (f.sum.size=0) && !f.conf)
theorem sX (fmt:Int)(hfmt:fmt=1\/fmt=2\/fmt=3)(f:av)(w:World)(ho:f.owner.size<=9223372036854775807)(hg:f.group.size<=9223372036854775807)(hl:f.link.size<=9223372036854775807)(hsm:f.sum.size<=9223372036854775807):Calls Tryz.prog 89 #[.int .i64 fmt,f.val] w fun e w'=>e=.returned (.bool (cy fmt f))/\Below w.heap.size w w':=by
 have HW:Hid (Below w.heap.size w (w.alloc (.cells #[.string f.path,.int .i64 f.kind,.int .i64 f.mode,.string f.owner,.string f.group,.string f.link,.string f.sum,.bool f.conf] 56))):=bR.alloc lr _;unfold av.val;by_cases hm0:f.mode<0
 ·skip
  have E:Hid (cy fmt f=false):=by show _=_;unfold cy;rw[dF];rfl
  go_in;go_wp2;go_ret;exact⟨af (by rw[E.out]),HW.out⟩
 by_cases hm1:4095<f.mode
 ·skip
  have E:Hid (cy fmt f=false):=by show _=_;unfold cy;rw[dF];rfl
  go_in;go_wp2;go_ret;exact⟨af (by rw[E.out]),HW.out⟩
 have RM:Hid (decide (0<=f.mode/\f.mode<=4095)=true):=dT (by omega);go_in;go_wp2_with fail;refine(lC fmt f.owner _ ho).mono ?_;rintro e w' ⟨rfl,rfl⟩;cases g1:eT fmt f.owner
 ·skip
  have E:Hid (cy fmt f=false):=by show _=_;unfold cy;rw[g1];simp
  clear g1;go_wp2;go_ret;exact⟨af (by rw[E.out]),HW.out⟩
 have G1:=ae g1;clear g1;go_wp2_with fail;refine(lC fmt f.group _ hg).mono ?_;rintro e w' ⟨rfl,rfl⟩;cases g2:eT fmt f.group
 ·skip
  have E:Hid (cy fmt f=false):=by show _=_;unfold cy;rw[g2];simp
  clear g2;go_wp2;go_ret;exact⟨af (by rw[E.out]),HW.out⟩
 have G2:=ae g2;clear g2;have HWX:=HW.out;by_cases k3:f.kind=3
 ·have k3':(f.kind==3)=true:=by simpa using k3
  have k1':(f.kind==1)=false:=by simp;omega
  by_cases m5:f.mode=511
  ·have m5':(f.mode != 511)=false:=by simpa [bne] using m5
   have M5:Hid (decide (f.mode=511)=true):=dT m5;have K3:=ae k3;clear k3 m5;go_wp2_with fail;refine(kF f.link _ hl).mono ?_;rintro e w' ⟨rfl,rfl⟩;cases g3:fY (bl f.link)
   ·skip
    have E:Hid (cy fmt f=false):=by show _=_;unfold cy;rw[if_pos K3.out,g3];simp
    clear g3;go_wp2;go_ret;exact⟨af (by rw[E.out]),HWX⟩
   have G3:=ae g3;clear g3;by_cases l2:200<f.link.size
   ·skip
    have E:Hid (cy fmt f=false):=by show _=_;unfold cy;rw[if_pos K3.out,dF (show ¬ f.link.size<=200 by omega)];simp
    go_wp2;go_ret;exact⟨af (by rw[E.out]),HWX⟩
   have L2:Hid (decide (f.link.size<=200)=true):=dT (by omega);have RL:Hid ((if f.kind=3 then decide (f.mode=511)&&fY (bl f.link)&&decide (f.link.size<=200) else decide (f.link.size=0))=true):=by show _=_;rw[if_pos K3.out,M5.out,G3.out,L2.out];rfl
   have KN:wQ (f.kind=1):=⟨by have:=K3.out;omega⟩
   by_cases s0:f.sum.size=0
   ·have se:f.sum.toList=[]:=by rw[aj,bX _ s0]
    have se2:f.sum.toList.isEmpty=true:=by rw[se];rfl
    cases hcf:f.conf
    ·skip
     have E:Hid (cy fmt f=true):=by show _=_;unfold cy;rw[RM.out,G1.out,G2.out,RL.out,if_neg KN.out,dT s0,hcf];rfl
     simp only[hcf] at *;go_wp2;go_ret;exact⟨af (by rw[E.out]),HWX⟩
    ·skip
     have E:Hid (cy fmt f=false):=by show _=_;unfold cy;rw[if_neg KN.out,hcf];simp
     simp only[hcf] at *;go_wp2;go_ret;exact⟨af (by rw[E.out]),HWX⟩
   ·have se2:f.sum.toList.isEmpty=false:=by rw[aj,bj];exact dF s0
    have se:¬ f.sum.toList=[]:=by intro h;rw[h] at se2;simp at se2
    have E:Hid (cy fmt f=false):=by show _=_;unfold cy;rw[if_neg KN.out,dF s0];simp
    clear s0;go_wp2;go_ret;exact⟨af (by rw[E.out]),HWX⟩
  ·have m5':(f.mode != 511)=true:=by simpa [bne] using m5
   have E:Hid (cy fmt f=false):=by show _=_;unfold cy;rw[if_pos k3,dF m5];simp
   clear k3 m5;go_wp2;go_ret;exact⟨af (by rw[E.out]),HWX⟩
 ·have k3':(f.kind==3)=false:=by simpa using k3
  by_cases l0:f.link.size=0
  ·have le:f.link.toList=[]:=by rw[aj,bX _ l0]
   have le2:f.link.toList.isEmpty=true:=by rw[le];rfl
   have RL:Hid ((if f.kind=3 then decide (f.mode=511)&&fY (bl f.link)&&decide (f.link.size<=200) else decide (f.link.size=0))=true):=by show _=_;rw[if_neg k3,dT l0]
   by_cases k1:f.kind=1
   ·have k1':(f.kind==1)=true:=by simpa using k1
    have K1:=ae k1;clear k1 k3 l0;go_wp2_with fail;refine(tX fmt hfmt f.sum _ hsm).mono ?_;rintro e w3 ⟨rfl,hb3⟩;have X3:Hid (Bx w w3 f.cells):=(Bx.start w f.cells _).step hb3;have x7:=X3.out.cell 7 _ rfl;clear hb3;have HWZ:=X3.out.bel;cases g4:Iy fmt f.sum
    ·skip
     have E:Hid (cy fmt f=false):=by show _=_;unfold cy;rw[if_pos K1.out,g4];simp
     clear g4;go_wp2;go_ret;exact⟨af (by rw[E.out]),HWZ⟩
    have G4:=ae g4;clear g4;cases hcf:f.conf
    ·skip
     have E:Hid (cy fmt f=true):=by show _=_;unfold cy;rw[RM.out,G1.out,G2.out,RL.out,if_pos K1.out,G4.out,hcf];rfl
     simp only[hcf] at *;go_wp2;go_ret;exact⟨af (by rw[E.out]),HWZ⟩
    by_cases f3:fmt=3
    ·have f3':(fmt==3)=true:=by simpa using f3
     have f3n:(fmt != 3)=false:=by simpa [bne] using f3
     have E:Hid (cy fmt f=false):=by show _=_;unfold cy;rw[if_pos K1.out,hcf,dF (show ¬ fmt≠3 from fun h=>h f3)];simp
     clear f3;simp only[hcf] at *;go_wp2;go_ret;exact⟨af (by rw[E.out]),HWZ⟩
    ·have f3':(fmt==3)=false:=by simpa using f3
     have f3n:(fmt != 3)=true:=by simpa [bne] using f3
     have E:Hid (cy fmt f=true):=by show _=_;unfold cy;rw[RM.out,G1.out,G2.out,RL.out,if_pos K1.out,G4.out,hcf,dT (show fmt≠3 from f3)];rfl
     clear f3;simp only[hcf] at *;go_wp2;go_ret;exact⟨af (by rw[E.out]),HWZ⟩
   ·have k1':(f.kind==1)=false:=by simpa using k1
    have KN:wQ (f.kind=1):=⟨k1⟩
    clear k1 k3 l0;by_cases s0:f.sum.size=0
    ·have se:f.sum.toList=[]:=by rw[aj,bX _ s0]
     have se2:f.sum.toList.isEmpty=true:=by rw[se];rfl
     cases hcf:f.conf
     ·skip
      have E:Hid (cy fmt f=true):=by show _=_;unfold cy;rw[RM.out,G1.out,G2.out,RL.out,if_neg KN.out,dT s0,hcf];rfl
      simp only[hcf] at *;go_wp2;go_ret;exact⟨af (by rw[E.out]),HWX⟩
     ·skip
      have E:Hid (cy fmt f=false):=by show _=_;unfold cy;rw[if_neg KN.out,hcf];simp
      simp only[hcf] at *;go_wp2;go_ret;exact⟨af (by rw[E.out]),HWX⟩
    ·have se2:f.sum.toList.isEmpty=false:=by rw[aj,bj];exact dF s0
     have se:¬ f.sum.toList=[]:=by intro h;rw[h] at se2;simp at se2
     have E:Hid (cy fmt f=false):=by show _=_;unfold cy;rw[if_neg KN.out,dF s0];simp
     clear s0;go_wp2;go_ret;exact⟨af (by rw[E.out]),HWX⟩
  ·have le2:f.link.toList.isEmpty=false:=by rw[aj,bj];exact dF l0
   have le:¬ f.link.toList=[]:=by intro h;rw[h] at le2;simp at le2
   have E:Hid (cy fmt f=false):=by show _=_;unfold cy;rw[if_neg k3,dF l0];simp
   clear k3 l0;go_wp2;go_ret;exact⟨af (by rw[E.out]),HWX⟩
end
section
open Go.RowKit Go.Maps
def jx (prev:Option av)(f:av):Bool:=match prev with
 | none=>true
 | some g=>decide (bl g.path<bl f.path)
def ky (pre:List av)(f:av):Bool:=Bn f.path&&pre.any (fun g=>decide (g.path=oR f.path)&&decide (g.kind≠2))
def kZ (fmt:Int)(pre:List av)(f:av):Int:=
 if (cR (bl f.path)&&fY (bl f.path))=false then 10 else if jx pre.getLast? f=false then 15 else if ¬ (f.kind=1\/f.kind=2\/f.kind=3) then 9
 else if cy fmt f=false then 1 else if ky pre f=true then 9 else 0
def eG (fmt:Int):List av->List av->Option (BA×Int)
 | _,[]=>none
 | pre,f::r=>if kZ fmt pre f=0 then eG fmt (pre++[f]) r else some (f.path,kZ fmt pre f)
theorem Cz {fs:List av}{f:av}(h:fs[k]?=some f)(h0:eG fmt [] fs=eG fmt (fs.take k) (fs.drop k))(he:kZ fmt (fs.take k) f=0):eG fmt [] fs=eG fmt (fs.take (k+1)) (fs.drop (k+1)):=by
 obtain⟨hk,hf⟩:=gS h;rw[h0,List.drop_eq_getElem_cons hk,hf,eG,if_pos he,tS hk,hf]
theorem iP {fs:List av}{f:av}(h:fs[k]?=some f)(h0:eG fmt [] fs=eG fmt (fs.take k) (fs.drop k))(he:kZ fmt (fs.take k) f≠0):eG fmt [] fs=some (f.path,kZ fmt (fs.take k) f):=by
 obtain⟨hk,hf⟩:=gS h;rw[h0,List.drop_eq_getElem_cons hk,hf,eG,if_neg he]
theorem FJ {fs:List av}(hk:fs.length<=k)(h0:eG fmt [] fs=eG fmt (fs.take k) (fs.drop k)):eG fmt [] fs=none:=by
 rw[h0,List.drop_of_length_le hk];rfl
def gw (fmt:Int)(fs:List av):BA×Int:=if 512<fs.length then (⟨#[102,105,108,101,115]⟩,4) else (eG fmt [] fs).getD (⟨#[]⟩,0)
def pc (fmt:Int)(fs:List av):Value:=.tuple #[.string (gw fmt fs).1,.int .i64 (gw fmt fs).2]
structure sY (pre:List av) (g:BA->Option Value):Prop where
 sorted:(kn pre).Pairwise (fun s t=>bl s<bl t)
 kind:∀ x∈pre,g x.path=some (.int .i64 x.kind)
 mem:∀ s,g s≠none->s∈kn pre
theorem sY.nil:sY [] (fun _=>none):=⟨by simp[kn],by simp,by simp⟩
theorem sY.less {pre:List av}(h:sY pre g){f:av}(ho:jx pre.getLast? f=true):∀ x∈pre,bl x.path<bl f.path:=by
 intro x hx;cases hl:pre.getLast? with
 | none=>rw[List.getLast?_eq_none_iff] at hl;subst hl;simp at hx
 | some y=>
  rw[hl] at ho;have hyf:bl y.path<bl f.path:=dO ho;obtain⟨ys,rfl⟩:=List.getLast?_eq_some_iff.1 hl;rcases List.mem_append.1 hx with hx | hx
  ·have hs:=h.sorted;rw[show kn (ys++[y])=kn ys++[y.path] by simp[kn],List.pairwise_append] at hs;exact Hc (hs.2.2 x.path (List.mem_map.2 ⟨x,hx,rfl⟩) y.path (by simp)) hyf
  ·rw[List.mem_singleton.1 hx];exact hyf
theorem sY.put {pre:List av}(h:sY pre g){f:av}(ho:jx pre.getLast? f=true):sY (pre++[f]) (fun x=>if x=f.path then some (.int .i64 f.kind) else g x):=by
 have hl:=h.less ho;refine⟨?_,fun x hx=>?_,fun s hs=>?_⟩
 ·rw[show kn (pre++[f])=kn pre++[f.path] by simp[kn],List.pairwise_append];refine⟨h.sorted,by simp,fun a ha b hb=>?_⟩;obtain⟨x,hx,rfl⟩:=List.mem_map.1 ha;rw[List.mem_singleton.1 hb];exact hl x hx
 ·rcases List.mem_append.1 hx with hx | hx
  ·have hne:x.path≠f.path:=fun e=>by have:=hl x hx;rw[e] at this;exact uM _ this
   simp only[if_neg hne];exact h.kind x hx
  ·rw[List.mem_singleton.1 hx];simp
 ·by_cases e:s=f.path
  ·subst e;simp[kn]
  ·simp only[if_neg e] at hs;have:=h.mem s hs;simp only[kn,List.map_append,List.mem_append] at this |-;exact .inl this
theorem sY.par {pre:List av}(h:sY pre g)(f:av)(hp:Bn f.path=true):
  (g (oR f.path)=none/\ky pre f=false)\/∃ k:Int,g (oR f.path)=some (.int .i64 k)/\ky pre f=decide (k≠2):=by
 unfold ky;rw[hp];cases hg:g (oR f.path) with
 | none=>
  refine .inl ⟨rfl,?_⟩;rw[Bool.true_and,List.any_eq_false];intro x hx hc;rw[Bool.and_eq_true] at hc;have he:=dO hc.1;have:=h.kind x hx;rw[he,hg] at this;cases this
 | some v=>
  obtain⟨x,hx,he⟩:=List.mem_map.1 (h.mem (oR f.path) (by rw[hg];simp));have hk:=h.kind x hx;have he:x.path=oR f.path:=he;rw[he,hg] at hk;injection hk with hk;subst hk;refine .inr ⟨x.kind,rfl,?_⟩;rw[Bool.true_and,bI,List.any_eq_true,decide_eq_true_iff];constructor
  ·rintro⟨y,hy,hc⟩;rw[Bool.and_eq_true] at hc;have hye:=dO hc.1;have hyk:=dO hc.2;have h1:=h.kind y hy;have h2:=h.kind x hx;rw[hye] at h1;rw[he,h1] at h2;injection h2 with h2;injection h2 with _ h2;rw[<-h2];exact hyk
  ·intro hk;exact⟨x,hx,by rw[dT he,dT hk];rfl⟩
theorem Pf (s:BA):(oR s).size<=s.size:=by
 have h:(bl (oR s)).length<=(bl s).length:=by
  unfold oR;rw[jB];unfold gA;split
  ·cases dD 47 (bl s) with
   | none=>simp
   | some i=>simp only[Option.map_some,Option.getD_some];rw[List.length_take];omega
  ·simp
 rw[ah,ah] at h;exact h
theorem Pg (w:World):(zeroValue 3).run Tryz.prog w=.ok (.int .i64 0) w:=by kernel_rfl
theorem qh (f:av)(pre:List av)(g:BA->Option Value)(mb B n:Nat)(w:World)(hG:Gl w)(hc:w.cell? ⟨mb,0,none⟩=some (.map (some B)))(hlt:mb<w.heap.size)(hM:bm w B n g)(hK:sY pre g)(hs:f.path.size<=4294967280):Calls Tryz.prog 86 #[.string f.path,.pointer (some ⟨mb,0,none⟩)] w fun e w'=>e=.returned (.bool (!ky pre f))/\Below w.heap.size w w':=by
 have HG:=ae hG;have HM:=ae hM;have HK:=ae hK;have HC:=ae hc;clear hG hM hK hc;go_in;go_wp2_with fail;refine(zC f.path _ HG.out hs).mono ?_;rintro e w1 ⟨rfl,hb⟩;have HB:=ae hb;have hc1:w1.cell? ⟨mb,0,none⟩=some (.map (some B)):=(hb.cell (p:=⟨mb,0,none⟩) hlt).trans HC.out;have hpl:=Pf f.path;have hlk:=(HM.out.below hb).look_ok Tryz.underlying104 Pg (oR f.path) (by unfold maxLen;omega);clear hb;unfold IJ;cases hp:Bn f.path
 ·have E:Hid (ky pre f=false):=by show _=_;unfold ky;rw[hp];rfl
  clear hp;go_wp2;go_ret;exact⟨af (by rw[E.out];rfl),HB.out⟩
 ·rcases HK.out.par f hp with⟨h1,h2⟩ | ⟨k,h1,h2⟩
  ·rw[h1] at hlk;simp only[Option.getD_none,Option.isSome_none] at hlk;have E:=ae h2;clear h1 h2 hp;go_wp2;go_ret;exact⟨af (by rw[E.out];rfl),HB.out⟩
  ·rw[h1] at hlk;simp only[Option.getD_some,Option.isSome_some] at hlk;by_cases hk:k=2
   ·have hk1:(k==2)=true:=by simpa using hk
    have E:Hid (ky pre f=false):=by show _=_;rw[h2];simp[hk]
    clear h1 h2 hp hk;go_wp2;go_ret;exact⟨af (by rw[E.out];rfl),HB.out⟩
   ·have hk1:(k==2)=false:=by simpa using hk
    have E:Hid (ky pre f=true):=by show _=_;rw[h2];simp[hk]
    clear h1 h2 hp hk;go_wp2;go_ret;exact⟨af (by rw[E.out];rfl),HB.out⟩
theorem iQ {fs:List av}{p:BA}{e:Int}(hl:¬ 512<fs.length)(h:eG fmt [] fs=some (p,e)):pc fmt fs=.tuple #[.string p,.int .i64 e]:=by
 unfold pc gw;rw[if_neg hl,h];rfl
theorem JQ {fs:List av}(hl:¬ 512<fs.length)(h:eG fmt [] fs=none):pc fmt fs=.tuple #[.string ⟨#[]⟩,.int .i64 0]:=by
 unfold pc gw;rw[if_neg hl,h];rfl
theorem JR {fs:List av}{f:av}(h:fs[k]?=some f):(fs.take (k+1)).getLast?=some f:=by
 obtain⟨hk,hf⟩:=gS h;rw[tS hk,hf];simp
theorem MG (s t:BA):(Op.bytesLess s.toList t.toList||s.toList==t.toList)=!decide (bl t<bl s):=by
 rw[dA,et,aj,aj];by_cases h:bl t<bl s
 ·rw[dT h];have h1:¬ bl s<bl t:=fun h'=>uM _ (Hc h h');have h2:s≠t:=fun e=>by rw[e] at h;exact uM _ h
  simp[h1,h2]
 ·rw[dF h];by_cases e:s=t
  ·simp[e]
  ·have:bl s<bl t:=qW h (fun h'=>e (dC h').symm);simp[this]
structure Oj (w wr:World) (k:Nat) (pre:List av) (g:BA->Option Value):Prop where
 map:bm wr w.heap.size k g
 inv:sY pre g
 cell:wr.cell? ⟨w.heap.size+1,0,none⟩=some (.map (some w.heap.size))
 bel:Below w.heap.size w wr
 sz:w.heap.size+2<=wr.heap.size
theorem Oj.below {pre:List av}(h:Oj w wr k pre g)(hb:Below wr.heap.size wr w'):Oj w w' k pre g:=
 ⟨h.map.below hb,h.inv,(hb.cell (p:=⟨w.heap.size+1,0,none⟩) (by have:=h.sz;show w.heap.size+1<_;omega)).trans h.cell,aq h.bel hb,Nat.le_trans h.sz hb.size⟩
theorem Oj.start (w:World):Oj w ((w.alloc (.map #[] 0)).alloc (.cells #[.map (some w.heap.size)] 104)) 0 [] (fun _=>none):=
 ⟨(bm.made w).alloc _,sY.nil,by simp,(bR.alloc lr _).alloc (by simp) _,by simp⟩
theorem Oj.put {pre:List av}{f:av}(h:Oj w wr k pre g)(ho:jx pre.getLast? f=true)(hm:bm w' w.heap.size (k+1) (fun x=>if x=f.path then some (.int .i64 f.kind) else g x))(hg:wr.grownBy w' (some w.heap.size)):Oj w w' (k+1) (pre++[f]) (fun x=>if x=f.path then some (.int .i64 f.kind) else g x):=
 ⟨hm,h.inv.put ho,hg.cell h.cell (by simp),h.bel.grown hg h.bel.size (fun j hj=>by injection hj with hj;omega),Nat.le_trans h.sz hg.size⟩
theorem rj (fmt:Int)(hfmt:fmt=1\/fmt=2\/fmt=3)(A:OA)(c:Nat)(fs:List av)(w:World)(hG:Gl w)(hr:Rd w 8 A fs.length (fs.flatMap av.cells))(hn:fs.length<=9223372036854775807)(hf:∀ x∈fs,x.path.size<=4294967280/\x.owner.size<=4294967280/\x.group.size<=4294967280/\x.link.size<=4294967280/\x.sum.size<=4294967280):Calls Tryz.prog 49 #[.int .i64 fmt,.slice A fs.length c] w fun e w'=>e=.returned (pc fmt fs)/\Below w.heap.size w w':=by
 have HG:=ae hG;have HR:=ae hr;have HF:=ae hf;clear hG hr hf;by_cases h512:512<fs.length
 ·have E:Hid (pc fmt fs=.tuple #[.string ⟨#[102,105,108,101,115]⟩,.int .i64 4]):=by show _=_;unfold pc gw;rw[if_pos h512]
  go_in;go_wp2;go_ret2;exact⟨by rw[E.out];rfl,bR⟩
 have hmm:=@run_makeMap Tryz.prog;go_in;go_wp2_with fail;clear hmm;go_loopw [17] (fun i wr=>∃ (k:Nat) (g:BA->Option Value),k<=fs.length/\i=.int .i64 k/\Hid (eG fmt [] fs=eG fmt (fs.take k) (fs.drop k))/\Hid (Oj w wr k (fs.take k) g)) (fun i _=>fs.length-(intOf i).toNat)
 case atStart=>exact⟨0,_,z0,rfl,rfl,Oj.start w⟩
 case round=>
  obtain⟨k,g,hk,rfl,HE,HS⟩:=hrel;by_cases hlt:k<fs.length
  ·obtain⟨f,hf⟩:∃ f,fs[k]?=some f:=⟨_,gG hlt⟩
   obtain⟨fz1,fz2,fz3,fz4,fz5⟩:=HF.out f (gM hf);obtain⟨b,off,hA,he⟩:=(HR.out.below HS.out.bel).elem gg k f hf;have e0:=he 0 _ rfl;have e1:=he 1 _ rfl;have e2:=he 2 _ rfl;have e3:=he 3 _ rfl;have e4:=he 4 _ rfl;have e5:=he 5 _ rfl;have e6:=he 6 _ rfl;have e7:=he 7 _ rfl;simp only[Nat.add_zero] at e0;have hix:=fun W=>aB (T:=24) (E:=56) (sz:=8) (c:=c) Tryz.underlying24 rfl Tryz.sizeOf56 hA hlt W;have HX:=ae hf;clear hf he hA;have X0:Hid (Bx wr (wr.alloc (.cells #[.string f.path,.int .i64 f.kind,.int .i64 f.mode,.string f.owner,.string f.group,.string f.link,.string f.sum,.bool f.conf] 56)) f.cells):=Bx.start wr f.cells _;go_wp2_with fail;clear e0 e1 e2 e3 e4 e5 e6 e7 hix;refine(jX f.path _ (HG.out.below (aq HS.out.bel X0.out.bel)) (by omega)).mono ?_;rintro e w1 ⟨rfl,hb1⟩;have X1:Hid (Bx wr w1 f.cells):=X0.out.step hb1;clear hb1;cases g1:cR (bl f.path)
   ·skip
    have c0:=X1.out.cell 0 _ rfl;have FE:kZ fmt (fs.take k) f=10:=by unfold kZ;rw[g1];rfl
    have E:=ae (iQ (fmt:=fmt) h512 (iP HX.out HE.out (by rw[FE];decide)));rw[FE] at E;clear FE g1;go_wp2;go_ret2;exact⟨by rw[E.out];rfl,aq HS.out.bel X1.out.bel⟩
   have G1:=ae g1;clear g1;have c0:=X1.out.cell 0 _ rfl;go_wp2_with fail;refine(kF f.path _ (by omega)).mono ?_;rintro e w' ⟨rfl,rfl⟩;cases g2:fY (bl f.path)
   ·skip
    have FE:kZ fmt (fs.take k) f=10:=by unfold kZ;rw[G1.out,g2];rfl
    have E:=ae (iQ (fmt:=fmt) h512 (iP HX.out HE.out (by rw[FE];decide)));rw[FE] at E;clear FE g2;go_wp2;go_ret2;exact⟨by rw[E.out];rfl,aq HS.out.bel X1.out.bel⟩
   have G2:Hid ((cR (bl f.path)&&fY (bl f.path))=true):=by show _=_;rw[G1.out,g2];rfl
   clear g2;go_upto_region 10 with(fail)
   go_cut [35] (fun s35 wx=>∃ bb:Bool,s35=.bool bb/\Hid (bb=!jx (fs.take k).getLast? f)/\Hid (Bx wr wx f.cells))
   case first=>
    by_cases k0:k=0
    ·have k0':decide (0<(k:Int))=false:=dF (by omega);have k0n:decide (0<k)=false:=dF (by omega);have OB:Hid (false=!jx (fs.take k).getLast? f):=by show _=_;rw[k0];rfl
     clear k0;go_quiet (fail);go_wp2;go_meet;exact⟨false,rfl,OB,X1.out.drewN _⟩
    ·have k0':decide (0<(k:Int))=true:=dT (by omega);have k0n:decide (0<k)=true:=dT (by omega);have kpos:0<k:=by omega
     obtain⟨y,hy⟩:∃ y,fs[k-1]?=some y:=⟨_,gG (by omega)⟩
     have hly:(fs.take k).getLast?=some y:=by have:=JR hy;rw[show k-1+1=k by omega] at this;exact this
     obtain⟨b2,off2,hA2,he2⟩:=(HR.out.below (aq HS.out.bel X1.out.bel)).elem gg (k-1) y hy;have p0:=he2 0 _ rfl;simp only[Nat.add_zero] at p0;have hixp:=fun W=>zt (T:=24) (E:=56) (sz:=8) (c:=c) (i:=(k:Int)-1) Tryz.underlying24 rfl Tryz.sizeOf56 (by omega) hA2 (show k-1<fs.length by omega) W;have OB:Hid ((Op.bytesLess f.path.toList y.path.toList||f.path.toList==y.path.toList)=!jx (fs.take k).getLast? f):=by
      show _=_;rw[hly];exact MG f.path y.path
     have iw:IntKind.i64.wrap ((k:Int)-1)=(k:Int)-1:=IntWalk.i64_in _ (by omega);clear hy hly he2 hA2 k0;go_quiet (fail);go_wp2;go_meet;exact⟨_,rfl,OB,X1.out.drewN _⟩
   case rest=>
   obtain⟨bb,rfl,HOB,X2⟩:=hcut;clear c0;have c0:=X2.out.cell 0 _ rfl;have c1:=X2.out.cell 1 _ rfl;cases bb
   case true=>
    have HO:Hid (jx (fs.take k).getLast? f=false):=by have:=HOB.out;show _=_;revert this;cases jx (fs.take k).getLast? f<;>simp
    have FE:kZ fmt (fs.take k) f=15:=by unfold kZ;rw[G2.out,HO.out];rfl
    have E:=ae (iQ (fmt:=fmt) h512 (iP HX.out HE.out (by rw[FE];decide)));rw[FE] at E;clear FE;go_wp2;go_ret2;exact⟨by rw[E.out];rfl,aq HS.out.bel X2.out.bel⟩
   have HO:Hid (jx (fs.take k).getLast? f=true):=by have:=HOB.out;show _=_;revert this;cases jx (fs.take k).getLast? f<;>simp
   by_cases hkd:f.kind=1\/f.kind=2\/f.kind=3
   case neg=>
    have q1:(f.kind != 1)=true:=by simp[bne];omega
    have q2:(f.kind != 2)=true:=by simp[bne];omega
    have q3:(f.kind != 3)=true:=by simp[bne];omega
    have FE:kZ fmt (fs.take k) f=9:=by unfold kZ;rw[G2.out,HO.out,if_neg (by simp),if_neg (by simp),if_pos hkd]
    have E:=ae (iQ (fmt:=fmt) h512 (iP HX.out HE.out (by rw[FE];decide)));rw[FE] at E;clear FE hkd;go_wp2;go_ret2;exact⟨by rw[E.out];rfl,aq HS.out.bel X2.out.bel⟩
   have QQ:Hid (¬ ¬ (f.kind=1\/f.kind=2\/f.kind=3)):=fun h=>h hkd;have Q:decide (f.kind=1)=true\/(decide (f.kind=1)=false/\decide (f.kind=2)=true)\/(decide (f.kind=1)=false/\decide (f.kind=2)=false/\decide (f.kind=3)=true):=by
    by_cases h1:f.kind=1
    ·exact .inl (dT h1)
    by_cases h2:f.kind=2
    ·exact .inr (.inl ⟨dF h1,dT h2⟩)
    ·exact .inr (.inr ⟨dF h1,dF h2,dT⟩)
   clear hkd;go_upto_region 12 with(fail)
   go_cut [51] (fun s51 wx=>s51=.bool false/\wc=wx)
   case first=>
    rcases Q with h | ⟨h,h'⟩ | ⟨h,h',h''⟩
    ·have q1:(f.kind != 1)=false:=by have:=dO h;simp[bne,this]
     clear h;go_wp2;go_meet;exact⟨rfl,rfl⟩
    ·have q1:(f.kind != 1)=true:=by have:=of_decide_eq_false h;simp[bne,this]
     have q2:(f.kind != 2)=false:=by have:=dO h';simp[bne,this]
     clear h h';go_wp2;go_meet;exact⟨rfl,rfl⟩
    ·have q1:(f.kind != 1)=true:=by have:=of_decide_eq_false h;simp[bne,this]
     have q2:(f.kind != 2)=true:=by have:=of_decide_eq_false h';simp[bne,this]
     have q3:(f.kind != 3)=false:=by have:=dO h'';simp[bne,this]
     clear h h' h'';go_wp2;go_meet;exact⟨rfl,rfl⟩
   case rest=>
   obtain⟨rfl,rfl⟩:=hcut;have c2:=X2.out.cell 2 _ rfl;have c3:=X2.out.cell 3 _ rfl;have c4:=X2.out.cell 4 _ rfl;have c5:=X2.out.cell 5 _ rfl;have c6:=X2.out.cell 6 _ rfl;have c7:=X2.out.cell 7 _ rfl;go_wp2_with fail;refine(sX fmt hfmt f _ (by omega) (by omega) (by omega) (by omega)).mono ?_;rintro e w3 ⟨rfl,hb3⟩;have X3:Hid (Bx wr w3 f.cells):=X2.out.step hb3;clear hb3 c0 c1 c2 c3 c4 c5 c6 c7;have c0:=X3.out.cell 0 _ rfl;cases g3:cy fmt f
   case false=>
    have FE:kZ fmt (fs.take k) f=1:=by unfold kZ;rw[G2.out,HO.out,if_neg (by simp),if_neg (by simp),if_neg QQ.out,g3];rfl
    have E:=ae (iQ (fmt:=fmt) h512 (iP HX.out HE.out (by rw[FE];decide)));rw[FE] at E;clear FE g3;go_wp2;go_ret2;exact⟨by rw[E.out];rfl,aq HS.out.bel X3.out.bel⟩
   have G3:=ae g3;clear g3;go_wp2_with fail;have S3:=ae (HS.out.below X3.out.bel);refine(qh f (fs.take k) g (w.heap.size+1) w.heap.size k _ (HG.out.below S3.out.bel) S3.out.cell (by have:=S3.out.sz;omega) S3.out.map S3.out.inv fz1).mono ?_;rintro e w4 ⟨rfl,hb4⟩;have X4:Hid (Bx wr w4 f.cells):=X3.out.step hb4;have S4:=ae (S3.out.below hb4);clear hb4 c0;have c0:=X4.out.cell 0 _ rfl;have c1:=X4.out.cell 1 _ rfl;cases g4:ky (fs.take k) f
   case true=>
    have FE:kZ fmt (fs.take k) f=9:=by unfold kZ;rw[G2.out,HO.out,if_neg (by simp),if_neg (by simp),if_neg QQ.out,G3.out,if_neg (by simp),g4];rfl
    have E:=ae (iQ (fmt:=fmt) h512 (iP HX.out HE.out (by rw[FE];decide)));rw[FE] at E;clear FE g4;go_wp2;go_ret2;exact⟨by rw[E.out];rfl,aq HS.out.bel X4.out.bel⟩
   have FE:Hid (kZ fmt (fs.take k) f=0):=by show _=_;unfold kZ;rw[G2.out,HO.out,if_neg (by simp),if_neg (by simp),if_neg QQ.out,G3.out,if_neg (by simp),g4];rfl
   clear g4;have hmc:=S4.out.cell;obtain⟨w5,hrun5,hm5,hg5⟩:=S4.out.map.put Tryz.underlying104 (by unfold maxLen;omega) f.path (by unfold maxLen;omega) (.int .i64 f.kind);have S5:=ae (S4.out.put HO.out hm5 hg5);clear hm5 hg5;go_wp2_with fail;clear hrun5 hmc c0 c1;have TK:Hid (fs.take (k+1)=fs.take k++[f]):=by show _=_;obtain⟨hk',hf'⟩:=gS HX.out;rw[tS hk',hf']
   go_roundw
   case rel=>exact⟨k+1,_,by omega,by go_num,ae (Cz HX.out HE.out FE.out),ae (by rw[TK.out];exact S5.out)⟩
   case measure=>simp[intOf];omega
  ·have E:=ae (JQ (fmt:=fmt) h512 (FJ (by omega) HE.out));go_wp2;go_ret2;exact⟨by rw[E.out];rfl,HS.out.bel⟩
end
section
open Go.RowKit
theorem gH (h:Rd w 1 A n (l.map vb)):l.length=n:=by have:=h.1;simpa using this
theorem yJ (h:l[j]?=some c):l.take (j+1)=l.take j++[c]:=by
 rw[List.take_add_one,h];rfl
theorem JW (hj:j<8):yG (l.take j)<=72057594037927935:=by
 have h:=FS (l.take j);have h2:256 ^ (l.take j).length<=256 ^ 7:=Nat.pow_le_pow_right (by decide) (by rw[List.length_take];omega);have:(256:Nat) ^ 7=72057594037927936:=by decide
 omega
theorem JX (hj:j<8):Lc (l.take j)<=72057594037927935:=by
 have h:=FT (l.take j);have h2:256 ^ (l.take j).length<=256 ^ 7:=Nat.pow_le_pow_right (by decide) (by rw[List.length_take];omega);have:(256:Nat) ^ 7=72057594037927936:=by decide
 omega
theorem Sn (x c:Nat)(hx:x<=72057594037927935)(hc:c<256):bits .or .u64 ((x:Int)*256) (c:Int)=((x*256+c:Nat):Int):=by
 have h:=bits_or_u64_nat (x*256) c (by omega) (by omega);rw[show x*256 ||| c=x*256+c from MU 8 hc] at h;rw[<-h];simp
theorem MV (ch:UInt8)(hj:j<8)(hp:256 ^ j=2 ^ s):((ch.toNat:Int)*2 ^ s) % 18446744073709551616=((ch.toNat*256 ^ j:Nat):Int):=by
 have h1:ch.toNat*256 ^ j<256*256 ^ j:=Nat.mul_lt_mul_of_pos_right ch.toNat_lt (Nat.pow_pos (by decide));have h2:256*256 ^ j<=256 ^ 8:=by rw[Nat.mul_comm,<-Nat.pow_succ];exact Nat.pow_le_pow_right (by decide) (by omega)
 have h3:(256:Nat) ^ 8=18446744073709551616:=by decide
 have h4:((ch.toNat:Int)*2 ^ s)=((ch.toNat*256 ^ j:Nat):Int):=by rw[hp];simp
 rw[h4];omega
theorem So (ch:UInt8)(hx:x<256 ^ j)(hj:j<8)(hp:256 ^ j=2 ^ s):bits .or .u64 (x:Int) ((ch.toNat*256 ^ j:Nat):Int)=((x+ch.toNat*256 ^ j:Nat):Int):=by
 have h1:ch.toNat*256 ^ j<256*256 ^ j:=Nat.mul_lt_mul_of_pos_right ch.toNat_lt (Nat.pow_pos (by decide));have h2:256*256 ^ j<=256 ^ 8:=by rw[Nat.mul_comm,<-Nat.pow_succ];exact Nat.pow_le_pow_right (by decide) (by omega)
 have h3:(256:Nat) ^ 8=18446744073709551616:=by decide
 have h5:256 ^ j<=256 ^ 8:=Nat.pow_le_pow_right (by decide) (by omega);rw[bits_or_u64_nat x (ch.toNat*256 ^ j) (by omega) (by omega)];have:=MU (x:=ch.toNat) s (show x<2 ^ s by rw[<-hp];exact hx);rw[Nat.or_comm,hp,this,Nat.add_comm]
theorem CU (A:OA)(n c i k:Nat)(l:LU)(w:World)(hr:Rd w 1 A n (l.map vb))(hk:1<=k)(hk8:k<=8)(hi:i+k<=n)(hc:n<=c)(hc2:c<=4611686018427387904):Calls Tryz.prog 136 #[.slice A n c,.int .i64 i,.int .i64 k] w fun e w'=>e=.returned (.tuple #[.int .u64 (yG ((l.drop i).take k)),.bool true])/\w'=w:=by
 have hl:=gH hr;obtain⟨jk,hjk⟩:∃ jk,i+k=jk:=⟨_,rfl⟩
 have hsl:=fun W=>yI (T:=33) (E:=5) (sz:=1) Tryz.underlying33 rfl Tryz.sizeOf5 (A:=A) (n:=n) (c:=c) (i:=i) (j:=jk) (by omega) (by omega) W;have R2:=hr.cut (i:=i) (j:=jk) (c:=c) (by omega) (by omega) hc;obtain⟨A2,hA2⟩:∃ A2,(if c=i then A else A.map (·.add (i*1)))=A2:=⟨_,rfl⟩
 rw[hA2,show jk-i=k by omega] at hsl R2;rw[<-List.map_drop,<-List.map_take] at R2;obtain⟨l2,hl2⟩:∃ l2,(l.drop i).take k=l2:=⟨_,rfl⟩
 rw[hl2] at R2 |-;have hl2l:=gH R2;have hci:((i:Int)+(k:Int))=(jk:Int):=by omega
 have d1:decide ((k:Int)<1)=false:=dF (by omega);have d2:decide ((8:Int)<(k:Int))=false:=dF (by omega);have d3:decide ((i:Int)<0)=false:=dF (by omega);have d4:decide ((n:Int)-(k:Int)<(i:Int))=false:=dF (by omega);have HR:=ae R2;have HL:=ae hl2l;clear hr hl hA2 R2 hl2 hl2l hjk;go_in;go_wp2;go_loop [36,8] (fun s36 s8=>∃ (j x:Nat),j<=k/\s36=.int .i64 j/\s8=.int .u64 x/\Hid (x=yG (l2.take j))) (fun s36 _=>k-(intOf s36).toNat)
 case atStart=>exact⟨0,0,z0,rfl,rfl,rfl⟩
 case round=>
  obtain⟨j,x,hj,rfl,rfl,HX⟩:=hrel;by_cases hlt:j<k
  ·obtain⟨ch,hch⟩:∃ ch,l2[j]?=some ch:=⟨_,gG (by rw[HL.out];exact hlt)⟩
   obtain⟨b,off,hA,he⟩:=HR.out.2 (by omega);have e0:=he j (vb ch) (by rw[List.getElem?_map,hch];rfl);have hix:=fun W=>aB (T:=33) (E:=5) (sz:=1) (c:=c-i) Tryz.underlying33 rfl Tryz.sizeOf5 hA hlt W;have hxs:x<=72057594037927935:=by rw[HX.out];exact JW (by omega)
   have hor:=Sn x ch.toNat hxs ch.toNat_lt;have hct:=ch.toNat_lt;have HN:Hid (x*256+ch.toNat=yG (l2.take (j+1))):=by show _=_;rw[yJ hch,MK,HX.out]
   unfold vb at e0;clear he hA hch HX;go_wp2;go_round
   case rel=>exact⟨j+1,_,by omega,by go_num,rfl,HN⟩
   case measure=>simp[intOf];omega
  ·go_wp2;go_ret2;exact⟨by rw[HX.out,tL (by rw[HL.out];omega)];rfl,rfl⟩
theorem CV (A:OA)(n c i k:Nat)(l:LU)(w:World)(hr:Rd w 1 A n (l.map vb))(hk:1<=k)(hk8:k<=8)(hi:i+k<=n)(hc:n<=c)(hc2:c<=4611686018427387904):Calls Tryz.prog 137 #[.slice A n c,.int .i64 i,.int .i64 k] w fun e w'=>e=.returned (.tuple #[.int .u64 (Lc ((l.drop i).take k)),.bool true])/\w'=w:=by
 have hl:=gH hr;obtain⟨jk,hjk⟩:∃ jk,i+k=jk:=⟨_,rfl⟩
 have hsl:=fun W=>yI (T:=33) (E:=5) (sz:=1) Tryz.underlying33 rfl Tryz.sizeOf5 (A:=A) (n:=n) (c:=c) (i:=i) (j:=jk) (by omega) (by omega) W;have R2:=hr.cut (i:=i) (j:=jk) (c:=c) (by omega) (by omega) hc;obtain⟨A2,hA2⟩:∃ A2,(if c=i then A else A.map (·.add (i*1)))=A2:=⟨_,rfl⟩
 rw[hA2,show jk-i=k by omega] at hsl R2;rw[<-List.map_drop,<-List.map_take] at R2;obtain⟨l2,hl2⟩:∃ l2,(l.drop i).take k=l2:=⟨_,rfl⟩
 rw[hl2] at R2 |-;have hl2l:=gH R2;have hci:((i:Int)+(k:Int))=(jk:Int):=by omega
 have d1:decide ((k:Int)<1)=false:=dF (by omega);have d2:decide ((8:Int)<(k:Int))=false:=dF (by omega);have d3:decide ((i:Int)<0)=false:=dF (by omega);have d4:decide ((n:Int)-(k:Int)<(i:Int))=false:=dF (by omega);have HR:=ae R2;have HL:=ae hl2l;clear hr hl hA2 R2 hl2 hl2l hjk;go_in;go_wp2;go_loop [36,8] (fun s36 s8=>∃ (j x:Nat),j<=k/\s36=.int .i64 j/\s8=.int .u64 x/\Hid (x=Lc (l2.take j))) (fun s36 _=>k-(intOf s36).toNat)
 case atStart=>exact⟨0,0,z0,rfl,rfl,rfl⟩
 case round=>
  obtain⟨j,x,hj,rfl,rfl,HX⟩:=hrel;by_cases hlt:j<k
  ·obtain⟨ch,hch⟩:∃ ch,l2[j]?=some ch:=⟨_,gG (by rw[HL.out];exact hlt)⟩
   obtain⟨b,off,hA,he⟩:=HR.out.2 (by omega);have e0:=he j (vb ch) (by rw[List.getElem?_map,hch];rfl);have hix:=fun W=>aB (T:=33) (E:=5) (sz:=1) (c:=c-i) Tryz.underlying33 rfl Tryz.sizeOf5 hA hlt W;have hxs:x<=72057594037927935:=by rw[HX.out];exact JX (by omega)
   have hct:=ch.toNat_lt;obtain⟨s,hs⟩:∃ s,8*j=s:=⟨_,rfl⟩
   have hsi:(8:Int)*(j:Int)=(s:Int):=by omega
   have hs56:s<=56:=by omega
   obtain⟨y,hy⟩:∃ y,ch.toNat*256 ^ j=y:=⟨_,rfl⟩
   have hp:256 ^ j=2 ^ s:=by rw[<-hs,Nat.pow_mul]
   have hsh:=MV ch (j:=j) (s:=s) (by omega) hp;rw[hy] at hsh;have hshw:=(IntKind.wrap_u64 ((ch.toNat:Int)*2 ^ s)).trans hsh;have hx6:x<256 ^ j:=by have:=FT (l2.take j);rw[List.length_take,Nat.min_eq_left (by rw[HL.out];omega),<-HX.out] at this;exact this
   have hor:=So (j:=j) (s:=s) ch hx6 (by omega) hp;rw[hy] at hor;have HN:Hid (x+y=Lc (l2.take (j+1))):=by show _=_;rw[yJ hch,MM,HX.out,List.length_take,Nat.min_eq_left (by rw[HL.out];omega),hy]
   unfold vb at e0;clear he hA hch HX hy hp hs hx6;go_wp2;go_round
   case rel=>exact⟨j+1,_,by omega,by go_num,rfl,HN⟩
   case measure=>simp[intOf];omega
  ·go_wp2;go_ret2;exact⟨by rw[HX.out,tL (by rw[HL.out];omega)];rfl,rfl⟩
theorem MW (h:x<4294967296):nv (BitVec.ofNat 32 x)=(x:Int):=by
 unfold nv;rw[BitVec.toNat_ofNat,Nat.mod_eq_of_lt h]
theorem Pi (l:LU)(h:l.length=4):yG l<4294967296:=by have:=FS l;rw[h] at this;exact this
theorem MZ (l:LU)(h:l.length=4):Lc l<4294967296:=by have:=FT l;rw[h] at this;exact this
def bL (kd:Nat)(st:List cD)(tl:LU)(n:Nat):LV:=.int .i64 kd::(st.map vw++(tl.map vb++[.int .u64 n]))
theorem nR {st:List cD}(hs:st.length=8)(ht:tl.length=64):(bL kd st tl n).length=74:=by simp[bL,hs,ht]
theorem vM {st:List cD}(hi:i<st.length):(bL kd st tl n)[1+i]?=some (vw (st.getD i 0)):=by
 unfold bL;rw[Nat.add_comm,List.getElem?_cons_succ,List.getElem?_append_left (by simpa using hi),List.getElem?_map,gG hi,List.getD_eq_getElem?_getD,gG hi];rfl
theorem vN {st:List cD}(hs:st.length=8)(hi:i<tl.length):(bL kd st tl n)[9+i]?=(tl.map vb)[i]?:=by
 unfold bL;rw[show 9+i=(8+i)+1 by omega,List.getElem?_cons_succ,List.getElem?_append_right (by simp[hs]),List.length_map,hs,show 8+i-8=i by omega,List.getElem?_append_left (by simpa using hi)]
theorem fM {st:List cD}(hs:st.length=8)(ht:tl.length=64):(bL kd st tl n)[73]?=some (.int .u64 n):=by
 unfold bL;rw[List.getElem?_cons_succ,List.getElem?_append_right (by simp[hs]),List.length_map,hs,List.getElem?_append_right (by simp[ht]),List.length_map,ht];rfl
theorem CX {p r:List cD}{x y:cD}:(bL kd (p++x::r) tl n).set (1+p.length) (vw y)=bL kd (p++y::r) tl n:=by
 unfold bL;rw[Nat.add_comm,List.set_cons_succ,List.set_append_left _ _ (by simp),List.map_append,List.set_append_right _ _ (by simp)];simp
theorem JY {st:List cD}(h:ax w hb (bL kd st tl n))(hs:st.length=8)(ht:tl.length=64):Rd w 1 (some ⟨hb,9,none⟩) 64 (tl.map vb):=by
 refine⟨by simp[ht],fun _=>⟨hb,9,rfl,fun j u hu=>h.cell _ _ ?_⟩⟩;have hj:j<tl.length:=by have:=(gS hu).1;simpa using this
 rw[vN hs hj,hu]
theorem Pj {l:List cD}(h:l.length=16):∃ y0 y1 y2 y3 y4 y5 y6 y7 y8 y9 y10 y11 y12 y13 y14 y15,l=[y0,y1,y2,y3,y4,y5,y6,y7,y8,y9,y10,y11,y12,y13,y14,y15]:=by
 match l,h with
 | [y0,y1,y2,y3,y4,y5,y6,y7,y8,y9,y10,y11,y12,y13,y14,y15],_=>exact⟨y0,y1,y2,y3,y4,y5,y6,y7,y8,y9,y10,y11,y12,y13,y14,y15,rfl⟩
theorem Rh {l:List cD}(h:l.length=8):∃ a b c d e f g i,l=[a,b,c,d,e,f,g,i]:=by
 match l,h with
 | [a,b,c,d,e,f,g,i],_=>exact⟨a,b,c,d,e,f,g,i,rfl⟩
theorem FV (hl:vs.length=8)(hi:i<8){v:Value}(hv:vs[i]?=some v)(ho:v.oneCell'=true)(W:World):(Instr.index 138 (.agg vs.toArray) (.int .i64 (i:Int))).run Tryz.prog W=.ok v W:=by
 match vs,hl with
 | [a,b,c,d,e,f,g,h],_=>
  rcases(show i=0\/i=1\/i=2\/i=3\/i=4\/i=5\/i=6\/i=7 by omega) with rfl | rfl | rfl | rfl | rfl | rfl | rfl | rfl<;>(simp at hv;subst hv;simp[Instr.index,part,asIntOf,run_underlying Tryz.underlying138,Tryz.isAgg137,Tryz.sizeOf137,go_sem])
theorem rp {g:Nat}(h:ax w b vs)(hg:w.grownBy w' (some g))(hne:¬ b=g):ax w' b vs:=
 have hb:=hg.block b h.sz (fun e=>hne (Option.some.inj e))
 ⟨Nat.lt_of_lt_of_le h.sz hg.size,fun j u hu=>(World.cell?_of_block (a:=⟨b,j,none⟩) hb).trans (h.cell j u hu),fun j hj=>(World.frozen?_of_block (a:=⟨b,j,none⟩) hb).trans (h.free j hj)⟩
def Am (low:Bool)(F:FuncId):Prop:=(∀ (args:Array Value)(w:World),(callFunc F args).run Tryz.prog w=.ok (.enter F args) w) /\
 ∀ (b o m:Nat)(l:LU)(w:World),Rd w 1 (some ⟨b,o,none⟩) 64 (l.map vb)->m+4<=64 ->
  Calls Tryz.prog F #[.slice (some ⟨b,o,none⟩) 64 64,.int .i64 m,.int .i64 4] w fun e w'=>e=.returned (.tuple #[.int .u64 ((if low then Lc ((l.drop m).take 4) else yG ((l.drop m).take 4):Nat)),.bool true])/\w'=w
theorem FW:Am false 136:=⟨fun args w=>by kernel_rfl,fun b o m l w hr hm=>CU (some ⟨b,o,none⟩) 64 64 m 4 l w hr (by decide) (by decide) hm (by decide) (by decide)⟩
theorem FY:Am true 137:=⟨fun args w=>by kernel_rfl,fun b o m l w hr hm=>CV (some ⟨b,o,none⟩) 64 64 m 4 l w hr (by decide) (by decide) hm (by decide) (by decide)⟩
theorem pi (a b:Nat):((a:Int)==(b:Int))=(a==b):=by
 by_cases h:a=b
 ·subst h;simp
 ·have:¬ (a:Int)=(b:Int):=by omega
  rw[beq_eq_false_iff_ne.2 h,beq_eq_false_iff_ne.2 this]
theorem FZ (hb kd n:Nat)(hk:1<=kd/\kd<=3)(st:List cD)(tl:LU)(w:World)(hG:td w)(hs:st.length=8)(ht:tl.length=64)(hB:ax w hb (bL kd st tl n)):Calls Tryz.prog 97 #[.pointer (some ⟨hb,0,none⟩)] w fun e w'=>e=.returned (.tuple #[])/\ax w' hb (bL kd (im kd st tl) tl n)/\w.grownBy w' (some hb):=by
 have b0:=hB.cell 0 _ rfl;have k1:((kd:Int)==1)=(kd==1):=pi kd 1;have HB:=ae hB;have HG:=ae hG;have HS:=ae hs;have HT:=ae ht;obtain⟨low,hlow⟩:∃ low,(kd==1)=low:=⟨_,rfl⟩
 rw[hlow] at k1;have HLOW:=ae hlow;clear hB hG hs ht hlow;go_in;go_upto_if 14 with(fail)
 go_cut [2] (fun s wx=>wx=w/\∃ F:FuncId,s=.func (Fn.func F) #[] #[]/\Hid (Am low F))
 case first=>
  cases low
  ·go_wp2;go_meet;exact⟨rfl,_,rfl,FW⟩
  ·go_wp2;go_meet;exact⟨rfl,_,rfl,FY⟩
 case rest=>
  obtain⟨rfl,F,rfl,HF⟩:=hcut;have hcall:=HF.out.1;obtain⟨W1,hW1⟩:∃ W1,wc.alloc (.cells #[.int .u32 0,.int .u32 0,.int .u32 0,.int .u32 0,.int .u32 0,.int .u32 0,.int .u32 0,.int .u32 0,.int .u32 0,.int .u32 0,.int .u32 0,.int .u32 0,.int .u32 0,.int .u32 0,.int .u32 0,.int .u32 0] 180)=W1:=⟨_,rfl⟩
  have X1:Hid (ax W1 wc.heap.size (kz 16 [])):=by show ax _ _ _;rw[<-hW1];exact ax.new wc (kz 16 []) _
  have L1:Hid (Below wc.heap.size wc W1):=by show Below _ _ _;rw[<-hW1];exact bR.alloc lr _
  have HBL:Hid (hb<wc.heap.size):=HB.out.sz;have HB1:=ae (HB.out.below L1.out);obtain⟨wf,hwf⟩:∃ wf,FU low tl=wf:=⟨_,rfl⟩
  have HWF:=ae hwf;clear hwf;go_wp2_with fail;clear hW1;go_loopw [15] (fun s15 wr=>∃ i:Nat,i<=16/\s15=.int .i64 i/\Hid (ax wr wc.heap.size (kz 16 ((List.range i).map wf)))/\Hid (ax wr hb (bL kd st tl n))/\Hid (Below wc.heap.size wc wr)) (fun s15 _=>16-(intOf s15).toNat)
  case atStart=>exact⟨0,by omega,rfl,X1,HB1,L1⟩
  case round=>
   obtain⟨i,hi,rfl,HX,HH,HBel⟩:=hrel;by_cases hlt:i<16
   ·obtain⟨m,hm⟩:∃ m,4*i=m:=⟨_,rfl⟩
    have hmi:(4:Int)*(i:Int)=(m:Int):=by omega
    have hii:(i:Int)<16:=by omega
    have hm4:m+4<=64:=by omega
    have RT:=ae (JY HH.out HS.out HT.out);obtain⟨x,hx⟩:∃ x:Nat,(if low then Lc ((tl.drop m).take 4) else yG ((tl.drop m).take 4))=x:=⟨_,rfl⟩
    have h4:((tl.drop m).take 4).length=4:=by rw[List.length_take,List.length_drop,HT.out];omega
    have hxl:x<4294967296:=by rw[<-hx];split;exact MZ _ h4;exact Pi _ h4
    obtain⟨y,hy⟩:∃ y,wf i=y:=⟨_,rfl⟩
    have hv:(x:Int)=nv y:=by rw[<-hy,<-HWF.out,FU,hm,hx,MW hxl]
    have hvw:vw y=.int .u32 (x:Int):=by unfold vw;rw[<-hv]
    have ck:=HX.out.cell i _ (by have:=vK (n:=16) (l:=(List.range i).map wf) (by simpa using hlt);rwa [List.length_map,List.length_range] at this);have fk:=HX.out.free i (by rw[lO (by simpa using hi)];exact hlt);have HX2:Hid (ax (wr.setCell ⟨wc.heap.size,i,none⟩ (vw y)) wc.heap.size (kz 16 ((List.range (i+1)).map wf))):=by
     have:=HX.out.set i (by rw[lO (by simpa using hi)];exact hlt) (vw y);have e:=vL (n:=16) (l:=(List.range i).map wf) (by simpa using hlt) y;rw[List.length_map,List.length_range] at e;rw[e] at this;show ax _ _ _;rw[List.range_succ,List.map_append,List.map_singleton,hy];exact this
    have HH2:Hid (ax (wr.setCell ⟨wc.heap.size,i,none⟩ (vw y)) hb (bL kd st tl n)):=HH.out.far (by have:=HBL.out;omega) _;have HB5:Hid (Below wc.heap.size wc (wr.setCell ⟨wc.heap.size,i,none⟩ (vw y))):=ai HBel.out lr _;have HV:=ae hv;have HX0:=ae hx;rw[hvw] at HX2 HH2 HB5;unfold vw at ck;clear hm hx hy hv h4 hvw;go_wp2_with fail;refine(HF.out.2 hb 9 m tl _ RT.out hm4).mono ?_;rintro e w' ⟨rfl,rfl⟩;rw[HX0.out];go_wp2;go_roundw
    case rel=>exact⟨i+1,by omega,by go_num,HX2,HH2,HB5⟩
    case measure=>simp[intOf];omega
   ·have HK:Hid (i=16):=by show _=_;omega
    obtain⟨W3,hW3⟩:∃ W3,wr=W3:=⟨_,rfl⟩
    obtain⟨ws,hws⟩:∃ ws,tC low tl=ws:=⟨_,rfl⟩
    have HX16:Hid (ax W3 wc.heap.size (ws.map vw)):=by
     have:=HX.out;rw[HK.out,hW3] at this;show ax _ _ _;rw[<-hws,tC,HWF.out];simpa [kz] using this
    obtain⟨y0,y1,y2,y3,y4,y5,y6,y7,y8,y9,y10,y11,y12,y13,y14,y15,hyl⟩:=Pj (l:=ws) (by rw[<-hws];simp[tC]);obtain⟨a,b,c,d,e0,f0,g0,h0,hst⟩:=Rh HS.out;obtain⟨rest,hrest⟩:∃ rest,tl.map vb++[.int .u64 n]=rest:=⟨_,rfl⟩
    have HC:Hid (bL kd st tl n=.int .i64 kd::vw a::vw b::vw c::vw d::vw e0::vw f0::vw g0::vw h0::rest):=by show _=_;rw[hst,<-hrest];rfl
    have HH2:Hid (ax W3 hb (.int .i64 kd::vw a::vw b::vw c::vw d::vw e0::vw f0::vw g0::vw h0::rest)):=by rw[<-HC.out,<-hW3];exact HH.out
    rw[hyl] at HX16;have r1:=HH2.out.cell 1 _ rfl;have r2:=HH2.out.cell 2 _ rfl;have r3:=HH2.out.cell 3 _ rfl;have r4:=HH2.out.cell 4 _ rfl;have r5:=HH2.out.cell 5 _ rfl;have r6:=HH2.out.cell 6 _ rfl;have r7:=HH2.out.cell 7 _ rfl;have r8:=HH2.out.cell 8 _ rfl;rw[hW3] at HBel |-;have HST:=ae hst;have HWS:=ae hws;have HWY:=ae hyl;have HRE:=ae hrest;unfold vw at r1 r2 r3 r4 r5 r6 r7 r8;clear hW3 hst hws hyl hrest HX HH HB1 HB X1 L1;obtain⟨W4,hW4⟩:∃ W4,W3.alloc (.cells #[vw a,vw b,vw c,vw d,vw e0,vw f0,vw g0,vw h0] 138)=W4:=⟨_,rfl⟩
    have L4:Hid (Below W3.heap.size W3 W4):=by show Below _ _ _;rw[<-hW4];exact bR.alloc lr _
    have HO4:Hid (ax W4 W3.heap.size [vw a,vw b,vw c,vw d,vw e0,vw f0,vw g0,vw h0]):=by show ax _ _ _;rw[<-hW4];exact ax.new W3 [vw a,vw b,vw c,vw d,vw e0,vw f0,vw g0,vw h0] _
    have HH4:=ae (HH2.out.below L4.out);have HX4:=ae (HX16.out.below L4.out);obtain⟨w0,hw0⟩:∃ w0,wc=w0:=⟨_,rfl⟩
    have HG4:Hid (w0.grownBy W4 (some hb)):=by show World.grownBy _ _ _;rw[<-hw0];exact bB (bB (World.grownBy.refl wc _) HBel.out) L4.out
    have GT4:Hid (td W4):=(HG.out.below HBel.out).below L4.out;have h3:hb<W3.heap.size:=HH2.out.sz;have q0:=HX4.out.cell 0 _ rfl;have q1:=HX4.out.cell 1 _ rfl;have q2:=HX4.out.cell 2 _ rfl;have q3:=HX4.out.cell 3 _ rfl;have q4:=HX4.out.cell 4 _ rfl;have q5:=HX4.out.cell 5 _ rfl;have q6:=HX4.out.cell 6 _ rfl;have q7:=HX4.out.cell 7 _ rfl;have q8:=HX4.out.cell 8 _ rfl;have q9:=HX4.out.cell 9 _ rfl;have q10:=HX4.out.cell 10 _ rfl;have q11:=HX4.out.cell 11 _ rfl;have q12:=HX4.out.cell 12 _ rfl;have q13:=HX4.out.cell 13 _ rfl;have q14:=HX4.out.cell 14 _ rfl;have q15:=HX4.out.cell 15 _ rfl;have h0c:=HH4.out.cell 0 _ rfl;obtain⟨lo2,hlo2⟩:∃ lo2,(kd==2)=lo2:=⟨_,rfl⟩
    have k2:((kd:Int)==2)=lo2:=(pi kd 2).trans hlo2;have HLO2:=ae hlo2;have HW0:=ae hw0;clear hlo2 hw0;unfold vw at hW4 q0 q1 q2 q3 q4 q5 q6 q7 q8 q9 q10 q11 q12 q13 q14 q15;go_upto_block 2 with(fail)
    clear hW4 r1 r2 r3 r4 r5 r6 r7 r8;go_cut [] (fun wx=>Hid (ax wx hb (bL kd (nj kd ws st) tl n))/\Hid (ax wx W3.heap.size [vw a,vw b,vw c,vw d,vw e0,vw f0,vw g0,vw h0])/\Hid (w0.grownBy wx (some hb)))
    case first=>
     cases low with
     | true=>
      have HK1:Hid (kd=1):=by have:=HLOW.out;show _=_;simpa using this
      go_wp2_with fail;refine(MQ hb y0 y1 y2 y3 y4 y5 y6 y7 y8 y9 y10 y11 y12 y13 y14 y15 a b c d (.int .i64 kd) (vw e0::vw f0::vw g0::vw h0::rest) _ GT4.out HH4.out).mono ?_;rintro e w' ⟨rfl,hb1,hg1⟩;have R1:Hid (ax w' hb (bL kd (nj kd ws st) tl n)):=by
       rw[<-HWY.out] at hb1;show ax _ _ _;rw[HST.out,HK1.out];rw[HK1.out] at hb1;unfold bL;rw[HRE.out];exact hb1
      have R2:=ae (rp HO4.out hg1 (by omega));have R3:=ae (ak HG4.out hg1);clear hb1 hg1;go_wp2;go_meet;exact⟨R1,R2,R3⟩
     | false=>
      cases lo2 with
      | true=>
       have HK1:Hid (kd=2):=by have:=HLO2.out;show _=_;simpa using this
       go_wp2_with fail;refine(JV hb y0 y1 y2 y3 y4 y5 y6 y7 y8 y9 y10 y11 y12 y13 y14 y15 a b c d e0 (.int .i64 kd) (vw f0::vw g0::vw h0::rest) _ HH4.out).mono ?_;rintro e w' ⟨rfl,hb1,hg1⟩;have R1:Hid (ax w' hb (bL kd (nj kd ws st) tl n)):=by
        rw[<-HWY.out] at hb1;show ax _ _ _;rw[HST.out,HK1.out];rw[HK1.out] at hb1;unfold bL;rw[HRE.out];exact hb1
       have R2:=ae (rp HO4.out hg1 (by omega));have R3:=ae (ak HG4.out hg1);clear hb1 hg1;go_wp2;go_meet;exact⟨R1,R2,R3⟩
      | false=>
       have HK1:Hid (kd=3):=by
        have h1:=HLO2.out;have h2:=HLOW.out;show _=_;simp at h1 h2;omega
       go_wp2_with fail;refine(CT hb y0 y1 y2 y3 y4 y5 y6 y7 y8 y9 y10 y11 y12 y13 y14 y15 a b c d e0 f0 g0 h0 (.int .i64 kd) rest _ GT4.out HH4.out).mono ?_;rintro e w' ⟨rfl,hb1,hg1⟩;have R1:Hid (ax w' hb (bL kd (nj kd ws st) tl n)):=by
        rw[<-HWY.out] at hb1;show ax _ _ _;rw[HST.out,HK1.out];rw[HK1.out] at hb1;unfold bL;rw[HRE.out];exact hb1
       have R2:=ae (rp HO4.out hg1 (by omega));have R3:=ae (ak HG4.out hg1);clear hb1 hg1;go_wp2;go_meet;exact⟨R1,R2,R3⟩
    case rest=>
     obtain⟨R1,R2,R3⟩:=hcut;obtain⟨al,hal⟩:∃ al,nj kd ws st=al:=⟨_,rfl⟩
     have hall:al.length=8:=by rw[<-hal];exact vH kd ws HS.out
     obtain⟨zl,hzl⟩:∃ zl,List.zipWith (· + ·) al st=zl:=⟨_,rfl⟩
     have hzll:zl.length=8:=by rw[<-hzl,List.length_zipWith,hall,HS.out];rfl
     rw[hal] at R1;have HZ:Hid (im kd st tl=zl):=by
      show _=_;rw[<-hzl,<-hal,im,HLOW.out];rw[HWS.out]
     have o0:=R2.out.cell 0 _ rfl;have o1:=R2.out.cell 1 _ rfl;have o2:=R2.out.cell 2 _ rfl;have o3:=R2.out.cell 3 _ rfl;have o4:=R2.out.cell 4 _ rfl;have o5:=R2.out.cell 5 _ rfl;have o6:=R2.out.cell 6 _ rfl;have o7:=R2.out.cell 7 _ rfl;unfold vw at o0 o1 o2 o3 o4 o5 o6 o7;have HAL:=ae hall;have HZL:=ae hzll;have HZQ:=ae hzl;clear hall hzll hzl hal k1 k2 hcall;go_wp2_with fail;clear o0 o1 o2 o3 o4 o5 o6 o7;go_loopw [56] (fun s56 wr=>∃ i:Nat,i<=8/\s56=.int .i64 i/\Hid (ax wr hb (bL kd (zl.take i++al.drop i) tl n))/\Hid (w0.grownBy wr (some hb))) (fun s56 _=>8-(intOf s56).toNat)
     case atStart=>exact⟨0,by omega,rfl,by simpa using R1,R3⟩
     case round=>
      obtain⟨i,hi,rfl,HR,HGr⟩:=hrel;by_cases hlt:i<8
      ·have hii:(i:Int)<8:=by omega
       obtain⟨x,hx⟩:∃ x,al[i]?=some x:=⟨_,gG (by rw[HAL.out];exact hlt)⟩
       obtain⟨o,ho⟩:∃ o,st[i]?=some o:=⟨_,gG (by rw[HS.out];exact hlt)⟩
       have hz:zl[i]?=some (x+o):=by rw[<-HZQ.out,List.getElem?_zipWith,hx,ho]
       have hidx:=fun W=>FV (vs:=[vw a,vw b,vw c,vw d,vw e0,vw f0,vw g0,vw h0]) rfl hlt (v:=vw o) (by
        have:([vw a,vw b,vw c,vw d,vw e0,vw f0,vw g0,vw h0]:LV)=st.map vw:=by rw[HST.out];rfl
        rw[this,List.getElem?_map,ho];rfl) rfl W
       have hd:al.drop i=x::al.drop (i+1):=by rw[List.drop_eq_getElem_cons (by rw[HAL.out];exact hlt)];congr 1;exact(gS hx).2
       have htl:(zl.take i).length=i:=by rw[List.length_take,HZL.out];omega
       have hR:=HR.out;rw[hd] at hR;have c1:=hR.cell (1+i) (vw x) (by
        have:=vM (kd:=kd) (st:=zl.take i++x::al.drop (i+1)) (tl:=tl) (n:=n) (i:=i) (by rw[List.length_append,htl];simp);rw[this,List.getD_eq_getElem?_getD,List.getElem?_append_right (by omega),htl,Nat.sub_self];rfl)
       have f1:=hR.free (1+i) (by rw[nR (by rw[List.length_append,List.length_cons,List.length_drop,htl,HAL.out];omega) HT.out];omega);obtain⟨v,hv1,hv2,HV⟩:=iF x o;have HR2:Hid (ax (wr.setCell ⟨hb,1+i,none⟩ (vw v)) hb (bL kd (zl.take (i+1)++al.drop (i+1)) tl n)):=by
        have h1:=hR.set (1+i) (by rw[nR (by rw[List.length_append,List.length_cons,List.length_drop,htl,HAL.out];omega) HT.out];omega) (vw v);have h2:=CX (kd:=kd) (p:=zl.take i) (r:=al.drop (i+1)) (x:=x) (y:=v) (tl:=tl) (n:=n);rw[htl] at h2;rw[h2] at h1;show ax _ _ _;rw[List.take_add_one,hz,<-HV.out,List.append_assoc];exact h1
       have HG2:Hid (w0.grownBy (wr.setCell ⟨hb,1+i,none⟩ (vw v)) (some hb)):=ap HGr.out (.inl rfl) _;unfold vw at c1 hidx HR2 HG2;clear hx ho hz hd htl hR;go_wp2;go_region
       all_goals go_wp2_with fail
       all_goals go_roundw
       case rel=>exact⟨i+1,by omega,by go_num,ae HR2.out.drew,ae (bZ HG2.out 1)⟩
       case measure=>simp[intOf];omega
      ·have HK8:Hid (i=8):=by show _=_;omega
       go_wp2;go_end0;refine⟨rfl,?_,?_⟩
       ·have:=HR.out;rw[HK8.out,tL (by rw[HZL.out];exact Nat.le_refl _),List.drop_eq_nil_of_le (by rw[HAL.out];exact Nat.le_refl _),List.append_nil] at this;rw[HZ.out];exact this
       ·rw[HW0.out];exact HGr.out
def cj (w:World)(hb kd:Nat)(m:LU):Prop:=∃ tl,jy m tl/\ax w hb (bL kd (de kd m) tl m.length)
def NT (b:Nat):Prop:=¬ 2=b/\¬ 3=b/\¬ 4=b
theorem td.new (h:td w)(hb:w.heap.size<=b):NT b:=
 ⟨fun e=>by have:=World.block_lt_of_cell? _ _ (h.t5 0 (by decide));simp at this;omega,fun e=>by have:=World.block_lt_of_cell? _ _ (h.tu 0 (by decide));simp at this;omega,fun e=>by have:=World.block_lt_of_cell? _ _ (h.ts 0 (by decide));simp at this;omega⟩
theorem td.grown {g:Nat}(h:td w)(hg:w.grownBy w' (some g))(hn:NT g):td w':=by
 have key:∀ (b j:Nat)(v:Value),¬ b=g->w.cell? ⟨b,j,none⟩=some v->w'.cell? ⟨b,j,none⟩=some v:=fun b j v hne hc=>
  (World.cell?_of_block (a:=⟨b,j,none⟩) (hg.block b (World.block_lt_of_cell? _ _ hc) (fun e=>hne (Option.some.inj e)))).trans hc
 exact⟨fun i hi=>key _ _ _ hn.1 (h.t5 i hi),fun i hi=>key _ _ _ hn.2.1 (h.tu i hi),fun i hi=>key _ _ _ hn.2.2 (h.ts i hi)⟩
theorem CY {g:Nat}{xs:LV}(h:Rd w sz A n xs)(hg:w.grownBy w' (some g))(hA:0<n->∀ b o,A=some ⟨b,o,none⟩->¬ b=g):Rd w' sz A n xs:=
 ⟨h.1,fun hn=>by
  obtain⟨b,off,e,hc⟩:=h.2 hn;exact⟨b,off,e,fun j u hu=>(World.cell?_of_block (a:=⟨b,off+j,none⟩) (hg.block b (World.block_lt_of_cell? _ _ (hc j u hu)) (fun e2=>hA hn b off e (Option.some.inj e2)))).trans (hc j u hu)⟩⟩
def Ri:Value->Nat
 | .slice _ l _=>l
 | _=>0
theorem JZ (hA:Tryz.prog.underlying T=some (.array N E))(hs:∀ w,(sizeOf E).run Tryz.prog w=.ok 1 w){off:Nat}(ho:off<N)(w:World):
  (Instr.sliceAt T (.pointer (some ⟨b,o,none⟩)) (some (.int .u64 off)) none none).run Tryz.prog w=.ok (.slice (some ⟨b,o+off,none⟩) (N-off) (N-off)) w:=by
 have hb:(Instr.sliceBounds false N N (some (.int .u64 off)) none none).run Tryz.prog w=.ok (off,N,N) w:=by
  simp[Instr.sliceBounds,run_sliceBound (k:=.u64) (i:=(off:Int)) (y:=N) (h0:=by omega) (h1:=by omega)]
 have hne:¬ N=off:=by omega
 simp[Instr.sliceAt,run_underlying hA,hb,hs,Instr.sureAddr,asAddr,hne,kN]
theorem CZ (kd:Nat)(st:List cD)(tl:LU)(n off k:Nat):bL kd st tl n=(.int .i64 kd::(st.map vw++(tl.take off).map vb))++(((tl.drop off).take k).map vb++((tl.drop (off+k)).map vb++[.int .u64 n])):=by
 unfold bL;have e:tl=tl.take off++((tl.drop off).take k++tl.drop (off+k)):=by
  rw[<-List.drop_drop,List.take_append_drop,List.take_append_drop]
 rw[List.cons_append,List.append_assoc,<-List.append_assoc (((tl.drop off).take k).map vb),<-List.map_append,<-List.append_assoc ((tl.take off).map vb),<-List.map_append,<-e]
theorem J0 (kd:Nat)(st:List cD)(m tl r:LU)(n:Nat):(.int .i64 kd::(st.map vw++(tl.take (m.length % 64)).map vb))++(r.map vb++((tl.drop (m.length % 64+r.length)).map vb++[.int .u64 n]))=bL kd st (eP m tl r) n:=by
 simp[bL,eP]
theorem Ga {st:List cD}{n':Nat}(hs:st.length=8)(ht:tl.length=64):(bL kd st tl n).set 73 (.int .u64 n')=bL kd st tl n':=by
 unfold bL;rw[List.set_cons_succ,List.set_append_right _ _ (by simp[hs]),List.set_append_right _ _ (by simp[hs,ht])];simp[hs,ht]
theorem mv (hb kd n c:Nat)(hk:1<=kd/\kd<=3)(m bs:LU)(A:OA)(w:World)(hG:td w)(hN:NT hb)(hH:cj w hb kd m)(hr:Rd w 1 A n (bs.map vb))(hA:0<n->∀ b o,A=some ⟨b,o,none⟩->¬ b=hb)(hc:n<=c)(hc2:c<=9223372036854775807)(hm:m.length+n<=1152921504606846976):Calls Tryz.prog 54 #[.pointer (some ⟨hb,0,none⟩),.slice A n c] w fun e w'=>e=.returned (.tuple #[])/\cj w' hb kd (m++bs)/\w.grownBy w' (some hb):=by
 have HBN:Hid (bs.length=n):=gH hr;have HR:=ae hr;have HA:=ae hA;have HH:=ae hH;have HG:=ae hG;have HNT:=ae hN;have HM:=ae hm;clear hr hA hH hG hN hm;go_in;go_wp2;go_loopw [1] (fun s1 wr=>∃ (j r:Nat) (A1:OA) (c1:Nat),s1=.slice A1 r c1/\r<=c1/\c1<=9223372036854775807/\Hid (j+r=n)/\Hid (Rd wr 1 A1 r ((bs.drop j).map vb))/\Hid (0<r->∀ b o,A1=some ⟨b,o,none⟩->¬ b=hb)/\Hid (cj wr hb kd (m++bs.take j))/\Hid (w.grownBy wr (some hb))) (fun s1 _=>Ri s1)
 case atStart=>exact⟨0,n,A,c,rfl,hc,hc2,by simp[Hid],by simpa using HR,HA,by simpa using HH,World.grownBy.refl w _⟩
 case round=>
  obtain⟨j,r,A1,c1,rfl,hrc,hc1,HJ,HRr,HAr,HHr,HGr⟩:=hrel;by_cases hr0:0<r
  ·obtain⟨tl,hT,hB⟩:=HHr.out;obtain⟨L,hL⟩:∃ L,m++bs.take j=L:=⟨_,rfl⟩
   rw[hL] at hT hB;have hjn:=HJ.out;have hLl:L.length=m.length+j:=by rw[<-hL,List.length_append,List.length_take,HBN.out];omega
   obtain⟨sz,hsz⟩:∃ sz,L.length=sz:=⟨_,rfl⟩
   obtain⟨off,hoff⟩:∃ off,sz % 64=off:=⟨_,rfl⟩
   obtain⟨cnt,hcnt⟩:∃ cnt,Nat.min r (64-off)=cnt:=⟨_,rfl⟩
   obtain⟨rm,hrm⟩:∃ rm,64-off=rm:=⟨_,rfl⟩
   have ho64:off<64:=by omega
   have hcr:cnt<=r:=by rw[<-hcnt];exact Nat.min_le_left _ _
   have hcm:cnt<=rm:=by rw[<-hcnt,hrm];exact Nat.min_le_right _ _
   have hc0:0<cnt:=by rw[<-hcnt];exact Nat.lt_min.2 ⟨hr0,by omega⟩
   obtain⟨sz2,hsz2⟩:∃ sz2,sz+cnt=sz2:=⟨_,rfl⟩
   have hmM:=HM.out;have hszM:sz2<=1152921504606846976:=by omega
   obtain⟨ch,hch⟩:∃ ch,(bs.drop j).take cnt=ch:=⟨_,rfl⟩
   have hchl:ch.length=cnt:=by rw[<-hch,List.length_take,List.length_drop,HBN.out];omega
   obtain⟨b1,o1,hA1,hcell⟩:=HRr.out.2 hr0;have hb1:¬ b1=hb:=HAr.out hr0 b1 o1 hA1;have hst:=gN kd L
   -- the copy
   have hsl:=fun W=>JZ (T:=139) (E:=5) (N:=64) Tryz.underlying139 Tryz.sizeOf5 (b:=hb) (o:=9) (off:=off) ho64 W;rw[hrm] at hsl;have hB1:=hB;rw[CZ kd _ tl L.length off cnt] at hB1;have hpl:(.int .i64 (kd:Int)::((de kd L).map vw++(tl.take off).map vb):LV).length=9+off:=by
    simp[hst,hT.1];omega
   have hcp:∀ ty,(Builtin.copy_ #[33,33] ty #[.slice (some ⟨hb,9+off,none⟩) rm rm,.slice (some ⟨b1,o1,none⟩) r c1]).run Tryz.prog wr.drew=.ok (.int .i64 cnt) (wr.drew.setCells hb (9+off) (ch.map vb)):=fun ty=>
    jM hB1.drew ty Tryz.underlying33 (by kernel_rfl) hpl.symm (ch.map vb) (by rw[List.length_map,hchl,<-hcnt,hrm]) (by simp[hchl,hT.1];omega) (by rw[List.length_map,hchl]) (fun q v hq=>by
     rw[kN];refine hcell q v ?_;rw[<-hch,List.map_take] at hq;exact(List.getElem?_take_of_lt (by have:=(gS hq).1;simp at this;omega)).symm.trans hq) (fun v hv=>by obtain⟨x,_,rfl⟩:=List.mem_map.1 hv;rfl)
   obtain⟨W2,hW2⟩:∃ W2,wr.drew.setCells hb (9+off) (ch.map vb)=W2:=⟨_,rfl⟩
   have hmo:L.length % 64=off:=by rw[hsz,hoff]
   have B2:Hid (ax W2 hb (bL kd (de kd L) (eP L tl ch) sz)):=by
    have:=ax.setN ((tl.drop (off+cnt)).map vb++[.int .u64 L.length]) (ch.map vb) (((tl.drop off).take cnt).map vb) _ wr.drew (by simp[hchl,hT.1];omega) hB1.drew;rw[hpl,hW2] at this;show ax _ _ _;rw[<-J0,hmo,hchl,<-hsz];exact this
   rw[hW2] at hcp;have G2:Hid (w.grownBy W2 (some hb)):=by rw[<-hW2];exact eY _ _ _ _ (bZ HGr.out 1)
   have htp:(eP L tl ch).length=64:=rY hT.1 (by rw[hmo,hchl];omega);have k73:=B2.out.cell 73 _ (fM hst htp);have f73:=B2.out.free 73 (by rw[nR hst htp];decide);obtain⟨W3,hW3⟩:∃ W3,W2.setCell ⟨hb,73,none⟩ (.int .u64 sz2)=W3:=⟨_,rfl⟩
   have B3:Hid (ax W3 hb (bL kd (de kd L) (eP L tl ch) sz2)):=by
    have:=B2.out.set 73 (by rw[nR hst htp];decide) (.int .u64 sz2);rw[Ga hst htp,hW3] at this;exact this
   have G3:Hid (w.grownBy W3 (some hb)):=by rw[<-hW3];exact ap G2.out (.inl rfl) _
   have q73:=B3.out.cell 73 _ (fM hst htp);have k73a:=hB.drew.cell 73 _ (fM hst hT.1);rw[hsz] at k73a;have w73:wr.cell? ⟨hb,73,none⟩=some (.int .u64 sz):=k73a
   -- what is left
   have hsf:=fun W=>Ph (T:=33) (E:=5) (sz:=1) Tryz.underlying33 rfl Tryz.sizeOf5 (A:=some ⟨b1,o1,none⟩) (n:=r) (c:=c1) (k:=cnt) hcr W;obtain⟨A2,hA2⟩:∃ A2,(if c1=cnt then (some ⟨b1,o1,none⟩:OA) else (some ⟨b1,o1,none⟩:OA).map (·.add (cnt*1)))=A2:=⟨_,rfl⟩
   obtain⟨r2,hr2⟩:∃ r2,r-cnt=r2:=⟨_,rfl⟩
   obtain⟨c2,hc2'⟩:∃ c2,c1-cnt=c2:=⟨_,rfl⟩
   rw[hA2,hr2,hc2'] at hsf;subst hA1;have R2:Hid (Rd wr 1 A2 r2 ((bs.drop (j+cnt)).map vb)):=by
    have:=HRr.out.cut (i:=cnt) (j:=r) (c:=c1) hcr lr hrc;rw[hA2,hr2,<-List.map_drop,List.drop_drop,tL (by rw[List.length_map,List.length_drop,HBN.out];omega)] at this;exact this
   have A2':Hid (0<r2->∀ b o,A2=some ⟨b,o,none⟩->¬ b=hb):=by
    show 0<r2->∀ b o,A2=some ⟨b,o,none⟩->¬ b=hb;intro _ b o e;rw[<-hA2] at e;split at e
    ·injection e with e;injection e with e _;rw[<-e];exact hb1
    ·rw[Option.map_some,kN] at e;injection e with e;injection e with e _;rw[<-e];exact hb1
   have HL2:Hid (m++bs.take (j+cnt)=L++ch):=by show _=_;rw[List.take_add,<-hL,<-hch,List.append_assoc]
   have HLc:Hid ((L++ch).length=sz2):=by show _=_;rw[List.length_append,hsz,hchl,hsz2]
   have HJ2:Hid (j+cnt+r2=n):=by show _=_;omega
   have hrc2:r2<=c2:=by omega
   have hc22:c2<=9223372036854775807:=by omega
   have hr2lt:r2<r:=by omega
   have e1:(sz:Int) % 64=(off:Int):=by omega
   have e1t:(sz:Int).tmod 64=(off:Int):=by rw[Int.tmod_eq_emod_of_nonneg (by omega)];omega
   have e1w:IntKind.u64.wrap (off:Int)=(off:Int):=IntWalk.u64_in _ (by omega);have e2:IntKind.u64.wrap (cnt:Int)=(cnt:Int):=IntWalk.u64_in _ (by omega);have e3:(sz:Int)+(cnt:Int)=(sz2:Int):=by omega
   have e3w:IntKind.u64.wrap (sz2:Int)=(sz2:Int):=IntWalk.u64_in _ (by omega);obtain⟨ful,hful⟩:∃ ful,(sz2 % 64==0)=ful:=⟨_,rfl⟩
   have e4:((sz2:Int) % 64==0)=ful:=by rw[<-hful];exact pi (sz2 % 64) 0
   have HF:Hid ((sz2 % 64==0)=ful):=hful;have HHN:Hid (ful=false->cj W3 hb kd (m++bs.take (j+cnt))):=by
    show _->_;intro hf;have h64:¬ sz2 % 64=0:=by rw[hf] at hful;simpa using hful
    have hlt:L.length % 64+ch.length<64:=by rw[hmo,hchl];omega
    rw[HL2.out];refine⟨_,hT.part hlt,?_⟩;rw[Aj kd hlt,HLc.out];exact B3.out
   have HBK:Hid (ful=true->de kd (L++ch)=im kd (de kd L) (eP L tl ch)/\jy (L++ch) (eP L tl ch)):=by
    show _->_;intro hf;have h64:sz2 % 64=0:=by rw[hf] at hful;simpa using hful
    have heq:L.length % 64+ch.length=64:=by rw[hmo,hchl];omega
    exact⟨xy kd hT heq,jy.zero htp (by rw[HLc.out];exact h64)⟩
   have HST:=ae hst;have HTP:=ae htp;have HGG:=ae (HG.out.grown G3.out HNT.out);have HRW:=ae (CY R2.out (w':=W3) (g:=hb) (by rw[<-hW3,<-hW2];exact ap (eY _ _ _ _ (bZ (World.grownBy.refl wr _) 1)) (.inl rfl) _) A2'.out);have rm0:(0:Int)<=(rm:Int):=by omega
   have HCR:=ae hcr;clear hT hB hL hjn hLl hsz hoff hcnt hrm hsz2 hmM hch hchl hcell hb1 hst hB1 hpl hmo htp k73a hA2 hr2 hc2' hful HRr hW2 hcm;go_wp2;go_region_law (refine mu rfl (.tmp 16) (.tmp 17) 33 33 rfl _ _ rfl rfl hcp ?_);clear hcp w73;cases ful with
   | false=>
    go_wp2;go_roundw
    case rel=>exact⟨j+cnt,r2,A2,c2,rfl,hrc2,hc22,HJ2,HRW,A2',ae (HHN.out rfl),G3⟩
    case measure=>simp[Ri];omega
   | true=>
    go_wp2_with fail;refine(FZ hb kd sz2 hk (de kd L) (eP L tl ch) _ HGG.out HST.out HTP.out B3.out).mono ?_;rintro e w' ⟨rfl,hb5,hg5⟩;have HH5:Hid (cj w' hb kd (m++bs.take (j+cnt))):=by
     show cj _ _ _ _;rw[HL2.out];refine⟨_,(HBK.out (by first | trivial | rfl)).2,?_⟩;rw[(HBK.out (by first | trivial | rfl)).1,HLc.out];exact hb5
    have HR5:=ae (CY HRW.out hg5 A2'.out);have HG5:=ae (ak G3.out hg5);clear hb5 hg5;go_wp2;go_roundw
    case rel=>exact⟨j+cnt,r2,A2,c2,rfl,hrc2,hc22,HJ2,HR5,A2',HH5,HG5⟩
    case measure=>simp[Ri];omega
  ·obtain rfl:r=0:=by omega
   have HJ0:Hid (j=n):=by have:=HJ.out;show _=_;omega
   go_wp2;go_end0;refine⟨rfl,?_,HGr.out⟩;have:=HHr.out;rw[tL (by rw[HBN.out,HJ0.out];exact Nat.le_refl _)] at this;exact this
theorem Ka:Tryz.zeroCells142=(bL 0 (List.replicate 8 0) (List.replicate 64 0) 0).toArray:=by kernel_rfl
theorem Na (kd n:Nat):(Tryz.zeroCells142.setIfInBounds 0 (.int .i64 (kd:Int))).setIfInBounds 73 (.int .u64 (n:Int))=(bL kd (List.replicate 8 0) (List.replicate 64 0) n).toArray:=by
 rw[Ka,List.setIfInBounds_toArray,List.setIfInBounds_toArray];congr 1
theorem Gb {W1:World}{st:List cD}(hs:st.length=8)(ht:tl.length=64)(hB:ax w hb (bL kd st tl n))(hW:(w.alloc (.cells ((Tryz.zeroCells142.setIfInBounds 0 (.int .i64 (kd:Int))).setIfInBounds 73 (.int .u64 (n:Int))) 142)).drew=W1):
  ∃ W2 W3,(∀ ty,(Builtin.copy_ #[143,143] ty #[.slice (some ⟨w.heap.size,1,none⟩) 8 8,.slice (some ⟨hb,1,none⟩) 8 8]).run Tryz.prog W1.drew=.ok (.int .i64 (8:Nat)) W2) /\
   (∀ ty,(Builtin.copy_ #[33,33] ty #[.slice (some ⟨w.heap.size,9,none⟩) 64 64,.slice (some ⟨hb,9,none⟩) 64 64]).run Tryz.prog W2.drew=.ok (.int .i64 (64:Nat)) W3) /\
   Hid (ax W3 w.heap.size (bL kd st tl n))/\Hid (ax W3 hb (bL kd st tl n))/\Hid (Below w.heap.size w W3):=by
 rw[Na] at hW;have hlt:=hB.sz;have E1:ax W1.drew w.heap.size (bL kd (List.replicate 8 0) (List.replicate 64 0) n):=by rw[<-hW];exact(ax.new w _ _).drew.drew
 have L1:Below w.heap.size w W1.drew:=by rw[<-hW];exact am (am (bR.alloc lr _) 1) 1
 have H1:=hB.below L1;have L2:Below w.heap.size w (W1.drew.setCells w.heap.size 1 (st.map vw)):=cI _ _ L1 lr;have e1:bL kd (List.replicate 8 0) (List.replicate 64 0) n=[.int .i64 (kd:Int)]++(List.replicate 8 (vw 0)++(List.replicate 64 (vb 0)++[.int .u64 n])):=by simp[bL]
 have E2:ax (W1.drew.setCells w.heap.size 1 (st.map vw)) w.heap.size (bL kd st (List.replicate 64 0) n):=by
  have:=ax.setN (List.replicate 64 (vb 0)++[.int .u64 n]) (st.map vw) (List.replicate 8 (vw 0)) [.int .i64 (kd:Int)] W1.drew (by simp[hs]) (by rw[<-e1];exact E1);simpa [bL] using this
 have e2:bL kd st (List.replicate 64 0) n=(.int .i64 (kd:Int)::st.map vw)++(List.replicate 64 (vb 0)++[.int .u64 n]):=by simp[bL]
 have hl9:(.int .i64 (kd:Int)::st.map vw:LV).length=9:=by simp[hs]
 refine⟨W1.drew.setCells w.heap.size 1 (st.map vw),(W1.drew.setCells w.heap.size 1 (st.map vw)).drew.setCells w.heap.size 9 (tl.map vb),fun ty=>?_,fun ty=>?_,?_,?_,?_⟩
 ·refine jM (pre:=[.int .i64 (kd:Int)]) (old:=List.replicate 8 (vw 0)) (post:=List.replicate 64 (vb 0)++[.int .u64 n]) (by rw[<-e1];exact E1) ty Tryz.underlying143 (by kernel_rfl) rfl (st.map vw) (by rw[List.length_map,hs];rfl) (by rw[List.length_map,hs];rfl) (by rw[List.length_map,hs]) (fun j v hj=>?_) (fun v hv=>by obtain⟨x,_,rfl⟩:=List.mem_map.1 hv;rfl);rw[kN];have hj8:j<st.length:=by have:=(gS hj).1;simpa using this
  refine H1.cell _ _ ?_;rw[vM hj8];rw[List.getElem?_map,gG hj8] at hj;rw[List.getD_eq_getElem?_getD,gG hj8];exact hj
 ·refine jM (pre:=.int .i64 (kd:Int)::st.map vw) (old:=List.replicate 64 (vb 0)) (post:=[.int .u64 n]) (by rw[<-e2];exact E2.drew) ty Tryz.underlying33 (by kernel_rfl) hl9.symm (tl.map vb) (by rw[List.length_map,ht];rfl) (by rw[List.length_map,ht,List.length_replicate]) (by rw[List.length_map,ht]) (fun j v hj=>?_) (fun v hv=>by obtain⟨x,_,rfl⟩:=List.mem_map.1 hv;rfl);rw[kN];have hj8:j<tl.length:=by have:=(gS hj).1;simpa using this
  refine(hB.below L2).drew.cell _ _ ?_;rw[vN hs hj8];exact hj
 ·have:=ax.setN [.int .u64 n] (tl.map vb) (List.replicate 64 (vb 0)) (.int .i64 (kd:Int)::st.map vw) (W1.drew.setCells w.heap.size 1 (st.map vw)).drew (by simp[ht]) (by rw[<-e2];exact E2.drew);rw[hl9] at this;simpa [Hid,bL] using this
 ·exact hB.below (cI _ _ (am L2 1) lr)
 ·exact cI _ _ (am L2 1) lr
def An (kd:Nat)(F:FuncId):Prop:=(∀ (args:Array Value)(w:World),(callFunc F args).run Tryz.prog w=.ok (.enter F args) w) /\
 ∀ (x k:Nat)(w:World),x<18446744073709551616->1<=k->k<=8->Calls Tryz.prog F #[.int .u64 x,.int .i64 k] w fun e w'=>∃ g,e=.returned (.slice (some ⟨g,0,none⟩) k k)/\w'.ownsRow w.heap.size 5 1 (.slice (some ⟨g,0,none⟩) k k) k (Lib.byteCells (lf kd x k))/\Below w.heap.size w w'
theorem Gc (h:(kd==1)=false):An kd 98:=⟨fun args w=>by kernel_rfl,fun x k w hx h1 h8=>by
 have h':¬ kd=1:=by simpa using h
 unfold lf;rw[if_neg h'];exact M0 x k w hx h1 h8⟩
theorem Gd (h:(kd==1)=true):An kd 99:=⟨fun args w=>by kernel_rfl,fun x k w hx h1 h8=>by
 have h':kd=1:=by simpa using h
 unfold lf;rw[if_pos h'];exact M6 x k w hx h1 h8⟩
theorem cj.below (h:cj w hb kd m)(hb':Below w.heap.size w w'):cj w' hb kd m:=by
 obtain⟨tl,h1,h2⟩:=h;exact⟨tl,h1,h2.below hb'⟩
def Nb (b:Nat)(w:World):Nat:=match w.cell? ⟨b,73,none⟩ with
 | some (.int _ n)=>n.toNat
 | _=>0
theorem cj.size (h:cj w hb kd m):Nb hb w=m.length:=by
 obtain⟨tl,h1,h2⟩:=h;unfold Nb;rw[h2.cell 73 _ (fM (gN kd m) h1.1)];simp
theorem cj.c73 (h:cj w hb kd m):w.cell? ⟨hb,73,none⟩=some (.int .u64 m.length):=by
 obtain⟨tl,h1,h2⟩:=h;exact h2.cell 73 _ (fM (gN kd m) h1.1)
theorem cj.lt (h:cj w hb kd m):hb<w.heap.size:=by
 obtain⟨tl,h1,h2⟩:=h;exact h2.sz
theorem Ge (hi:i<=ld m)(hs:m.length+1+i=s):((s:Int) % 64 != 56)=decide (i<ld m):=by
 have e:((s:Int) % 64==56)=(s % 64==56):=pi (s % 64) 56;show(!((s:Int) % 64==56))=_;rw[e];unfold ld at *;by_cases h:i<(119-m.length % 64) % 64
 ·have:¬ s % 64=56:=by omega
  simp[h,this]
 ·have:s % 64=56:=by omega
  simp[h,this]
theorem pj {a b:World}(h:Below w.heap.size w a)(k:Below a.heap.size a b):Below w.heap.size w b:=
 h.trans ⟨k.os,k.tape,k.output,k.size,fun i hi=>k.block i (Nat.lt_of_lt_of_le hi h.size)⟩
theorem Kb (kd:Nat)(m:LU)(hi:i=ld m)(hx:8*m.length=x):m++[128]++List.replicate i 0++lf kd x 8=pe kd m:=by rw[hi,<-hx];rfl
theorem Ar (hA:Tryz.prog.underlying T=some (.array N E))(hs:∀ w,(sizeOf E).run Tryz.prog w=.ok 1 w)(hk:k<=N)(hN:0<N)(w:World):
  (Instr.sliceAt T (.pointer (some ⟨b,o,none⟩)) none (some (.int .i64 k)) none).run Tryz.prog w=.ok (.slice (some ⟨b,o,none⟩) k N) w:=by
 have hb:(Instr.sliceBounds false N N none (some (.int .i64 k)) none).run Tryz.prog w=.ok (0,k,N) w:=by
  simp[Instr.sliceBounds,run_sliceBound (k:=.i64) (i:=(k:Int)) (y:=N) (h0:=by omega) (h1:=by omega)]
 have hne:¬ N=0:=by omega
 simp[Instr.sliceAt,run_underlying hA,hb,hs,Instr.sureAddr,asAddr,hne,kN]
theorem Da (kd x k:Nat):(lf kd x k).length=k:=by unfold lf;split;exact mr _ _;exact qm _ _
theorem Nc {g:Nat}(h:w.ownsRow b 5 1 (.slice (some ⟨g,0,none⟩) n n) n (Lib.byteCells l))(hl:l.length=n):Rd w 1 (some ⟨g,0,none⟩) n (l.map vb):=by
 refine⟨by simp[hl],fun _=>⟨g,0,rfl,fun j u hu=>?_⟩⟩;have:=h.cells (g:=g) rfl j u hu;rw[vI] at this;rw[Nat.zero_add];exact this
theorem Hr (w:World)(c:UInt8)(t:TypeId):Rd (w.alloc (.cells #[.int .u8 c.toNat] t)) 1 (some ⟨w.heap.size,0,none⟩) 1 ([c].map vb):=by
 refine⟨rfl,fun _=>⟨_,0,rfl,fun j u hu=>?_⟩⟩;have:=(ax.new w [vb c] t).cell j u hu;rw[Nat.zero_add];exact this
theorem Nd (m:LU):ld m<64:=Nat.mod_lt _ (by decide)
def Sp:LU:=[48,49,50,51,52,53,54,55,56,57,97,98,99,100,101,102]
def As (k:Nat):UInt8:=Sp.getD k 48
def lh (l:LU):LU:=l.flatMap fun c=>[As (c.toNat / 16),As (c.toNat % 16)]
theorem Db (l:LU):(lh l).length=2*l.length:=by
 induction l with
 | nil=>rfl
 | cons c r ih=>simp[lh] at *;omega
theorem Kc (h:l[i]?=some c):lh (l.take (i+1))=lh (l.take i)++[As (c.toNat / 16),As (c.toNat % 16)]:=by
 unfold lh;rw[List.take_add_one,h,List.flatMap_append];rfl
theorem Dc:∀ k:Nat,k<16->∀ W:World,(Instr.index 9 (.string ⟨#[48,49,50,51,52,53,54,55,56,57,97,98,99,100,101,102]⟩) (.int .u8 (k:Int))).run Tryz.prog W=.ok (.int .u8 (As k).toNat) W:=by
 intro k hk W;rcases(show k=0\/k=1\/k=2\/k=3\/k=4\/k=5\/k=6\/k=7\/k=8\/k=9\/k=10\/k=11\/k=12\/k=13\/k=14\/k=15 by omega) with rfl | rfl | rfl | rfl | rfl | rfl | rfl | rfl | rfl | rfl | rfl | rfl | rfl | rfl | rfl | rfl<;>kernel_rfl
theorem Sq:∀ k:Nat,k<256->bits .and .u8 (k:Int) 15=((k % 16:Nat):Int):=by decide
theorem Kd (w:World)(t:TypeId)(x y:Value):eQ ((w.alloc (.cells #[x,y] t)).drew) (w.heap.size+1) 1 (some ⟨w.heap.size,0,none⟩) 2 [x,y]:=by
 refine⟨rfl,fun _=>⟨_,rfl,by simp,fun j u hu=>?_⟩⟩;rw[vI];exact(ax.new w [x,y] t).cell j u hu
theorem Ke (n c:Nat)(A:OA)(bs:LU)(w:World)(hr:Rd w 1 A n (bs.map vb))(hn:n<=1000000):Calls Tryz.prog 20 #[.slice A n c] w fun e w'=>e=.returned (.string ⟨(lh bs).toArray⟩)/\Below w.heap.size w w':=by
 obtain⟨i0,hi0,hz0,hz1,hz2⟩:=info_parts qp;have HR:=ae hr;have HBL:Hid (bs.length=n):=gH hr;have e2:(2:Int)*(n:Int)=((2*n:Nat):Int):=by omega
 obtain⟨n2,hn2⟩:∃ n2,2*n=n2:=⟨_,rfl⟩
 rw[hn2] at e2;have HN2:=ae hn2;have hn2b:n2<=2000000:=by omega
 clear hr hn2;go_in
 go_wp2_with (
  refine wpList_make_own _ rfl _ _ 33 rfl w.heap.size 5 i0 _ 1 Tryz.underlying33 hi0 hz0 hz1 .i64 .i64 _ n2 rfl rfl rfl (by rw[hz2];omega) (by simp only[maxLen];omega) (by omega) ?_;intro w1 hr1 hg1)
 have O1:=ae hr1;have L1:=ae ((Below.refl w.heap.size w).grown hg1 lr (by simp));clear hr1 hg1;go_wp2;go_loopw [12,3] (fun s12 s3 wr=>∃ (i q:Nat) (Ao:OA) (co:Nat),i<=n/\s12=.int .i64 i/\s3=.slice Ao q co/\q<=2000000/\Hid (q=2*i)/\Hid (wr.ownsRow w.heap.size 5 1 (.slice Ao q co) q (Lib.byteCells (lh (bs.take i))))/\Hid (Below w.heap.size w wr)) (fun s12 _ _=>n-(intOf s12).toNat)
 case atStart=>exact⟨0,0,_,_,by omega,rfl,rfl,by omega,rfl,O1,L1⟩
 case round=>
  obtain⟨i,q,Ao,co,hi,rfl,rfl,hq,HQ,HO,HL⟩:=hrel;by_cases hlt:i<n
  ·obtain⟨ch,hch⟩:∃ ch,bs[i]?=some ch:=⟨_,gG (by rw[HBL.out];exact hlt)⟩
   obtain⟨b,off,hA,he⟩:=(HR.out.below HL.out).2 (by omega);have c0:=he i (vb ch) (by rw[List.getElem?_map,hch];rfl);have hix:=fun W=>aB (T:=33) (E:=5) (sz:=1) (c:=c) Tryz.underlying33 rfl Tryz.sizeOf5 hA hlt W;have hcl:=ch.toNat_lt;obtain⟨h1,hh1⟩:∃ k,ch.toNat / 16=k:=⟨_,rfl⟩
   obtain⟨h2,hh2⟩:∃ k,ch.toNat % 16=k:=⟨_,rfl⟩
   have x1:(ch.toNat:Int) / 16=(h1:Int):=by omega
   have x2:(ch.toNat:Int) % 16=(h2:Int):=by omega
   have x3:bits .and .u8 (ch.toNat:Int) 15=(h2:Int):=by rw[Sq ch.toNat hcl,hh2]
   have hx1:=Dc h1 (by omega);have hx2:=Dc h2 (by omega);obtain⟨d1,hd1⟩:∃ d,As h1=d:=⟨_,rfl⟩
   obtain⟨d2,hd2⟩:∃ d,As h2=d:=⟨_,rfl⟩
   rw[hd1] at hx1;rw[hd2] at hx2;have HN:Hid (Lib.byteCells (lh (bs.take (i+1)))=Lib.byteCells (lh (bs.take i))++[.int .u8 d1.toNat,.int .u8 d2.toNat]):=by
    show _=_;rw[Kc hch,hh1,hh2,hd1,hd2];simp[Lib.byteCells]
   have hq2:q+2<=2000000:=by have:=HQ.out;omega
   have HQ2:Hid (q+2=2*(i+1)):=by have:=HQ.out;show _=_;omega
   have hwz:=HL.out.size;unfold vb at c0;clear hA he hch hh1 hh2 hd1 hd2;go_wp2
   go_region_law (
    refine dL _ (by rfl) _ _ _ (by rfl) w.heap.size 5 i0 _ 1 1 Tryz.underlying33 hi0 hz0 hz1 hz2 rfl (by omega) (.slice Ao q co) q _ (by rfl) ((HO.out.alloc _).drew) (wr.heap.size+1) (some ⟨wr.heap.size,0,none⟩) 2 2 _ (by rfl) (Kd wr _ _ _) (by simp[Value.oneCell']) (by simp only[maxLen];omega) (by omega) (by simp;omega) ?_;intro v1 w6 hown1 hg1 hat1)
   all_goals
    obtain⟨A1,c1,rfl⟩:=aN hown1;have O6:Hid (w6.ownsRow w.heap.size 5 1 (.slice A1 (q+2) c1) (q+2) (Lib.byteCells (lh (bs.take (i+1))))):=by
     show World.ownsRow _ _ _ _ _ _ _;rw[HN.out];exact hown1
    have L6:Hid (Below w.heap.size w w6):=(am (HL.out.alloc hwz _) 1).grown hg1 (Nat.le_trans hwz (by simp)) (fun p hp=>(HO.out.lt p hp).1);clear hown1 hg1 hat1;go_wp2;go_roundw
    case rel=>exact⟨i+1,q+2,A1,c1,by omega,by go_num,rfl,hq2,HQ2,O6,L6⟩
    case measure=>simp[intOf];omega
  ·have HI:Hid (i=n):=by show _=_;omega
   have hO:=HO.out;rw[HI.out,tL (by rw[HBL.out];exact Nat.le_refl _)] at hO;have hlen:(lh bs).length=q:=by have:=hO.1;simpa [Lib.byteCells] using this
   have hcv:(convert 33 9 (.slice Ao q co)).run Tryz.prog wr=.ok (.string ⟨(lh bs).toArray⟩) wr:=by
    rcases hO.2 with⟨hv,_⟩ | ⟨g,cap,cur,hv,_⟩
    ·injection hv with h1 h2 h3;subst h1 h2 h3;have hnil:lh bs=[]:=List.length_eq_zero_iff.1 hlen;rw[hnil];simp[convert,run_underlying Tryz.underlying33,run_underlying Tryz.underlying5,run_underlying Tryz.underlying9,Conv.bytesToString];rfl
    ·injection hv with h1 h2 h3;subst h1 h3;have h:=run_convert_bytes_back (P:=Tryz.prog) wr 33 9 5 ⟨g,0,none⟩ co (lh bs) Tryz.underlying33 Tryz.underlying5 Tryz.underlying9 (fun j hj=>by
      refine hO.cells (g:=g) rfl j _ ?_;unfold Lib.byteCells;rw[List.getElem?_map,gG hj];rfl)
     rw[hlen] at h;exact h
   clear hO hlen;go_wp2;go_ret;exact⟨rfl,HL.out⟩
theorem Nl (hb kd:Nat)(hk:1<=kd/\kd<=3)(m:LU)(w:World)(hG:td w)(hH:cj w hb kd m)(hm:m.length<=1125899906842624):Calls Tryz.prog 55 #[.pointer (some ⟨hb,0,none⟩)] w fun e w'=>∃ v,e=.returned v/\w'.ownsRow w.heap.size 5 1 v (dY kd m).length (Lib.byteCells (dY kd m))/\Below w.heap.size w w':=by
 obtain⟨tl,hT,hB⟩:=hH;have hst:=gN kd m;have b0:=hB.cell 0 _ rfl;have b73:=hB.cell 73 _ (fM hst hT.1);obtain⟨low,hlow⟩:∃ low,(kd==1)=low:=⟨_,rfl⟩
 have k1:((kd:Int)==1)=low:=(pi kd 1).trans hlow;have HLOW:=ae hlow;obtain⟨sz,hsz⟩:∃ sz,m.length=sz:=⟨_,rfl⟩
 rw[hsz] at hB b73 hm;have HB:=ae hB;have HSZ:=ae hsz;have HT:=ae hT;have HS:=ae hst;have HG:=ae hG;clear hlow hsz hT hst hG;go_in;go_wp2;go_region;generalize hW1:(w.alloc (.cells ((Tryz.zeroCells142.setIfInBounds 0 (.int .i64 (kd:Int))).setIfInBounds 73 (.int .u64 (sz:Int))) 142)).drew=W1;obtain⟨W2,W3,hcp2,hcp3,E3,H3,L3⟩:=Gb HS.out HT.out.1 HB.out hW1;clear hW1 b0 b73 hB;go_wp2;go_region_law (fail);clear hcp2;go_wp2;go_region_law (fail);clear hcp3;have b0:=H3.out.cell 0 _ rfl;have b73:=H3.out.cell 73 _ (fM HS.out HT.out.1);go_upto_if 41 with(fail)
 go_cut [4] (fun s wx=>wx=W3/\∃ F:FuncId,s=.func (Fn.func F) #[] #[]/\Hid (An kd F))
 case first=>
  cases low
  ·go_wp2;go_meet;exact⟨rfl,_,rfl,Gc HLOW.out⟩
  ·go_wp2;go_meet;exact⟨rfl,_,rfl,Gd HLOW.out⟩
 case rest=>
  obtain⟨rfl,F,rfl,HF⟩:=hcut;have hcall:=HF.out.1;obtain⟨W4,hW4⟩:∃ W4,wc.alloc (.cells #[.int .u8 (128:Int)] 5)=W4:=⟨_,rfl⟩
  have L4:Hid (Below w.heap.size w W4):=by show Below _ _ _;rw[<-hW4];exact L3.out.alloc L3.out.size _
  have hez:w.heap.size<wc.heap.size:=E3.out.sz;have HA4:Hid (cj W4 w.heap.size kd m):=by
   show cj _ _ _ _;refine⟨tl,HT.out,?_⟩;rw[<-hW4,HSZ.out];exact E3.out.alloc _
  have RD4:Hid (Rd W4 1 (some ⟨wc.heap.size,0,none⟩) 1 ([128].map vb)):=by rw[<-hW4];exact Hr wc 128 _
  have NTe:Hid (NT w.heap.size):=HG.out.new lr;go_wp2_with fail;refine(mv w.heap.size kd 1 1 hk m [128] (some ⟨wc.heap.size,0,none⟩) W4 (HG.out.below L4.out) NTe.out HA4.out RD4.out (by intro _ b o e;injection e with e;injection e with e _;omega) lr (by decide) (by rw[HSZ.out];omega)).mono ?_;rintro e w5 ⟨rfl,h5,g5⟩;have H5:=ae h5;have L5:Hid (Below w.heap.size w w5):=L4.out.grown g5 L4.out.size (fun q hq=>by have:=Option.some.inj hq;omega);clear h5 g5 hW4 RD4 HA4 L4 k1 b0 b73 hez;go_wp2;go_loopw [] (fun wr=>∃ i:Nat,i<=ld m/\Hid (cj wr w.heap.size kd (m++[128]++List.replicate i 0))/\Hid (Below w.heap.size w wr)) (fun wr=>sz+66-Nb w.heap.size wr)
  case atStart=>exact⟨0,z0,by simpa using H5,L5⟩
  case round=>
   obtain⟨i,hi,HH,HL⟩:=hrel;obtain⟨s2,hs2⟩:∃ s2,(m++[128]++List.replicate i (0:UInt8)).length=s2:=⟨_,rfl⟩
   have c73:=HH.out.c73;rw[hs2] at c73;have hs3:m.length+1+i=s2:=by rw[<-hs2];simp;omega
   obtain⟨bt,hbt⟩:∃ bt,((s2:Int) % 64 != 56)=bt:=⟨_,rfl⟩
   have HBT:Hid (decide (i<ld m)=bt):=by show _=_;rw[<-hbt];exact(Ge hi hs3).symm
   have HS2:=ae hs2;have HS3:=ae hs3;have hez:w.heap.size<wr.heap.size:=HH.out.lt;have HZ64:=ae (Nd m);clear hs2 hs3;cases bt with
   | true=>
    have hlt:i<ld m:=dO HBT.out;obtain⟨W4,hW4⟩:∃ W4,wr.alloc (.cells #[.int .u8 (0:Int)] 5)=W4:=⟨_,rfl⟩
    have L4:Hid (Below w.heap.size w W4):=by show Below _ _ _;rw[<-hW4];exact HL.out.alloc HL.out.size _
    have HA4:Hid (cj W4 w.heap.size kd (m++[128]++List.replicate i 0)):=by show cj _ _ _ _;rw[<-hW4];exact HH.out.below (bR.alloc lr _)
    have RD4:Hid (Rd W4 1 (some ⟨wr.heap.size,0,none⟩) 1 ([0].map vb)):=by rw[<-hW4];exact Hr wr 0 _
    go_wp2_with fail;refine(mv w.heap.size kd 1 1 hk (m++[128]++List.replicate i 0) [0] (some ⟨wr.heap.size,0,none⟩) W4 (HG.out.below L4.out) NTe.out HA4.out RD4.out (by intro _ b o e;injection e with e;injection e with e _;omega) lr (by decide) (by rw[HS2.out];have:=HS3.out;have:=HSZ.out;have:=HZ64.out;omega)).mono ?_;rintro e w5 ⟨rfl,h5,g5⟩;have H5:Hid (cj w5 w.heap.size kd (m++[128]++List.replicate (i+1) 0)):=by
     show cj _ _ _ _;rw[List.replicate_succ',<-List.append_assoc];exact h5
    have L5:Hid (Below w.heap.size w w5):=L4.out.grown g5 L4.out.size (fun q hq=>by have:=Option.some.inj hq;omega);have M1:Hid (Nb w.heap.size w5=s2+1):=by show _=_;rw[H5.out.size,<-HS3.out];simp;omega
    have M2:Hid (Nb w.heap.size wr=s2):=by show _=_;rw[HH.out.size,HS2.out]
    clear h5 g5 hW4;go_wp2;go_roundw
    case rel=>exact⟨i+1,hlt,H5,L5⟩
    case measure=>
     rw[M1.out,M2.out];have:=HS3.out;have:=HSZ.out;have:=HZ64.out;omega
   | false=>
    have hiz:Hid (i=ld m):=by have:=of_decide_eq_false HBT.out;show _=_;omega
    have HBr:Hid (ax wr hb (bL kd (de kd m) tl sz)):=HB.out.below HL.out;have q73:=HBr.out.cell 73 _ (fM HS.out HT.out.1);obtain⟨x8,hx8⟩:∃ x8,sz*8=x8:=⟨_,rfl⟩
    have e8:(sz:Int)*8=(x8:Int):=by omega
    have e8w:IntKind.u64.wrap (x8:Int)=(x8:Int):=IntWalk.u64_in _ (by omega);have HX8:=ae hx8;have hx8l:x8<18446744073709551616:=by omega
    clear hx8;go_wp2_with fail;refine(HF.out.2 x8 8 wr hx8l (by decide) (by decide)).mono ?_;rintro e w7 ⟨g,rfl,row,hb7⟩;have hg:=row.lt g rfl;have H7:Hid (cj w7 w.heap.size kd (m++[128]++List.replicate i 0)):=HH.out.below hb7;have L7:Hid (Below w.heap.size w w7):=pj HL.out hb7;have RD7:=ae (Nc row (Da kd x8 8));clear row hb7;go_wp2_with fail;refine(mv w.heap.size kd 8 8 hk (m++[128]++List.replicate i 0) (lf kd x8 8) (some ⟨g,0,none⟩) w7 (HG.out.below L7.out) NTe.out H7.out RD7.out (by intro _ b o e;injection e with e;injection e with e _;omega) lr (by decide) (by rw[HS2.out];have:=HS3.out;have:=HSZ.out;have:=HZ64.out;omega)).mono ?_;rintro e w8 ⟨rfl,h8,g8⟩;have H8:Hid (cj w8 w.heap.size kd (pe kd m)):=by
     rw[Kb kd m hiz.out (by rw[HSZ.out,<-HX8.out,Nat.mul_comm])] at h8;exact h8
    have L8:Hid (Below w.heap.size w w8):=L7.out.grown g8 L7.out.size (fun q hq=>by have:=Option.some.inj hq;omega);clear h8 g8 H7 L7 RD7 H5 L5;have HB8:Hid (ax w8 hb (bL kd (de kd m) tl sz)):=HB.out.below L8.out;have q0:=HB8.out.cell 0 _ rfl;obtain⟨lo1,hlo1⟩:∃ lo1,(kd==1)=lo1:=⟨_,rfl⟩
    have k1:((kd:Int)==1)=lo1:=(pi kd 1).trans hlo1;have HLO1:=ae hlo1;obtain⟨lo2,hlo2⟩:∃ lo2,(kd==2)=lo2:=⟨_,rfl⟩
    have k2:((kd:Int)==2)=lo2:=(pi kd 2).trans hlo2;have HLO2:=ae hlo2;clear hlo1 hlo2;go_upto_block 2 with(fail)
    go_cut [5] (fun s wx=>wx=w8/\s=.int .i64 (fL kd))
    case first=>
     have HW:Hid ((if lo1 then 4 else if lo2 then 5 else 8:Nat)=fL kd):=by
      show _=_;rw[<-HLO1.out,<-HLO2.out];unfold fL;by_cases h1:kd=1
      ·simp[h1]
      ·by_cases h2:kd=2<;>simp[h1,h2]
     cases lo1 with
     | true=>
      have HW4:Hid ((4:Nat)=fL kd):=HW.out;go_wp2;go_meet;exact⟨rfl,by rw[<-HW4.out];rfl⟩
     | false=>
      cases lo2 with
      | true=>
       have HW4:Hid ((5:Nat)=fL kd):=HW.out;go_wp2;go_meet;exact⟨rfl,by rw[<-HW4.out];rfl⟩
      | false=>
       have HW4:Hid ((8:Nat)=fL kd):=HW.out;go_wp2;go_meet;exact⟨rfl,by rw[<-HW4.out];rfl⟩
    case rest=>
     obtain⟨rfl,rfl⟩:=hcut;obtain⟨i0,hi0,hz0,hz1,hz2⟩:=info_parts qp;obtain⟨nw,hnw⟩:∃ nw,fL kd=nw:=⟨_,rfl⟩
     have hnw8:nw<=8:=by rw[<-hnw];unfold fL;split;decide;split<;>decide
     obtain⟨sl,hsl⟩:∃ sl,de kd (pe kd m)=sl:=⟨_,rfl⟩
     have HSL:Hid (sl.length=8):=by rw[<-hsl];exact gN _ _
     have HD:Hid (dY kd m=(sl.take nw).flatMap fun x=>lf kd x.toNat 4):=by show _=_;rw[<-hsl,<-hnw];rfl
     have HE:=ae hsl;have hto:=fun W=>Ar (T:=138) (E:=137) (N:=8) Tryz.underlying138 Tryz.sizeOf137 (b:=w.heap.size) (o:=1) (k:=nw) hnw8 (by decide) W;rw[hnw];clear hsl hnw q0 q73 c73 k1 k2;go_wp2;go_loopw [77,6] (fun s77 s6 wr=>∃ (i q:Nat) (Ao:OA) (co:Nat),i<=nw/\s77=.int .i64 i/\s6=.slice Ao q co/\q<=32/\Hid (q=4*i)/\Hid (wr.ownsRow (w.heap.size+1) 5 1 (.slice Ao q co) q (Lib.byteCells ((sl.take i).flatMap fun x=>lf kd x.toNat 4)))/\Hid (cj wr w.heap.size kd (pe kd m))/\Hid (Below w.heap.size w wr)) (fun s77 _ _=>nw-(intOf s77).toNat)
     case atStart=>exact⟨0,0,none,0,by omega,rfl,rfl,by omega,rfl,World.ownsRow_nil _ _ _ _,H8,L8⟩
     case round=>
      obtain⟨i,q,Ao,co,hi,rfl,rfl,hq,HQ,HO,HHr,HLr⟩:=hrel;by_cases hlt:i<nw
      ·obtain⟨x,hx⟩:∃ x,sl[i]?=some x:=⟨_,gG (by rw[HSL.out];omega)⟩
       obtain⟨xn,hxn⟩:∃ xn,x.toNat=xn:=⟨_,rfl⟩
       have hxl:xn<4294967296:=by rw[<-hxn];exact x.isLt
       have cx:wr.cell? ⟨w.heap.size,1+i,none⟩=some (.int .u32 xn):=by
        obtain⟨tl9,_,hb9⟩:=HHr.out;rw[HE.out] at hb9;have:=hb9.cell (1+i) _ (vM (by rw[HSL.out];omega));rw[this,List.getD_eq_getElem?_getD,hx,<-hxn];rfl
       have ew:IntKind.u64.wrap (xn:Int)=(xn:Int):=IntWalk.u64_in _ (by omega);have hii:(i:Int)<(nw:Int):=by omega
       have HN:Hid ((sl.take (i+1)).flatMap (fun x=>lf kd x.toNat 4)=(sl.take i).flatMap (fun x=>lf kd x.toNat 4)++lf kd xn 4):=by
        show _=_;rw[List.take_add_one,hx,List.flatMap_append,<-hxn];simp
       have hez:w.heap.size+1<=wr.heap.size:=HHr.out.lt;have hq28:q<=28:=by have:=HQ.out;omega
       clear hx hxn;go_wp2_with fail;refine(HF.out.2 xn 4 wr (by omega) (by decide) (by decide)).mono ?_;rintro e w5 ⟨g,rfl,row,hb5⟩;have O5:=ae (aL HO.out hb5);have HH5:Hid (cj w5 w.heap.size kd (pe kd m)):=HHr.out.below hb5;have L5:Hid (Below w.heap.size w w5):=pj HLr.out hb5;have RL:=ae ((Nc row (Da kd xn 4)).reads (by decide));have h5z:w.heap.size+1<=w5.heap.size:=Nat.le_trans hez hb5.size;clear row hb5
       go_wp2_with (
        at_builtin
        refine au _ rfl _ _ 33 rfl (w.heap.size+1) 5 i0 _ 1 1 Tryz.underlying33 hi0 hz0 hz1 hz2 rfl (by omega) (.slice Ao q co) q _ rfl O5.out _ (some ⟨g,0,none⟩) 4 4 _ rfl RL.out (fun u hu=>by obtain⟨x,_,rfl⟩:=List.mem_map.1 hu;rfl) (by first | (simp only[maxLen];omega) | omega) (by omega) (by first | omega | (simp;omega)) ?_;intro v1 w6 hown1 hg1 hat1;obtain⟨A1,c1,rfl⟩:=aN hown1)
       have O6:Hid (w6.ownsRow (w.heap.size+1) 5 1 (.slice A1 (q+4) c1) (q+4) (Lib.byteCells ((sl.take (i+1)).flatMap fun x=>lf kd x.toNat 4))):=by
        have h2:=hown1;show World.ownsRow _ _ _ _ _ _ _;rw[HN.out];unfold Lib.byteCells;rw[List.map_append];exact h2
       have hgo:∀ p,(Value.slice Ao q co).ownBlock=some p->w.heap.size+1<=p:=fun p hp=>(O5.out.lt p hp).1;have HH6:Hid (cj w6 w.heap.size kd (pe kd m)):=by
        obtain⟨tl9,h91,h92⟩:=HH5.out;refine⟨tl9,h91,?_⟩;have hb:=hg1.block w.heap.size h92.sz (fun e=>by have:=hgo _ e.symm;omega);exact⟨Nat.lt_of_lt_of_le h92.sz hg1.size,fun j u hu=>(World.cell?_of_block (a:=⟨_,j,none⟩) hb).trans (h92.cell j u hu),fun j hj=>(World.frozen?_of_block (a:=⟨_,j,none⟩) hb).trans (h92.free j hj)⟩
       have L6:Hid (Below w.heap.size w w6):=L5.out.grown hg1 L5.out.size (fun p hp=>by have:=hgo _ hp;omega);have HQ6:Hid (q+4=4*(i+1)):=by have:=HQ.out;show _=_;omega
       have hq32:q+4<=32:=by omega
       clear hown1 hg1 hat1 hgo;go_wp2;go_roundw
       case rel=>exact⟨i+1,q+4,A1,c1,by omega,by go_num,rfl,hq32,HQ6,O6,HH6,L6⟩
       case measure=>simp[intOf];omega
      ·have HI:Hid (i=nw):=by show _=_;omega
       go_wp2;go_ret;have hO:=HO.out;rw[HI.out,<-HD.out] at hO;have hlen:(dY kd m).length=q:=by have:=hO.1;simpa [Lib.byteCells] using this
       rw[hlen];exact⟨_,rfl,aY hO (by omega),HLr.out⟩
theorem Nm {Z:Array Value}(h:Z=(bL kd (Hp kd) (List.replicate 64 0) 0).toArray):cj (w.alloc (.cells Z 142)) w.heap.size kd []:=
 ⟨List.replicate 64 0,jy.zero (by simp) (by simp),by rw[h];exact ax.new w _ _⟩
theorem Nn (kd:Nat)(hk:1<=kd/\kd<=3)(w:World):Calls Tryz.prog 53 #[.int .i64 kd] w fun e w'=>∃ g,e=.returned (.tuple #[.pointer (some ⟨g,0,none⟩),.int .i64 0])/\w.heap.size<=g/\cj w' g kd []/\Below w.heap.size w w':=by
 rcases(show kd=1\/kd=2\/kd=3 by omega) with rfl | rfl | rfl
 all_goals
  go_in;go_wp2;go_ret2;exact⟨_,rfl,lr,Nm (by kernel_rfl),bR.alloc lr _⟩
def No (kd:Nat)(m:LU)(w:World)(e:Ending)(w':World):Prop:=∃ v,e=.returned v/\w'.ownsRow w.heap.size 5 1 v (dY kd m).length (Lib.byteCells (dY kd m))/\Below w.heap.size w w'
theorem Kj (kd n c:Nat)(hk:1<=kd/\kd<=3)(A:OA)(bs:LU)(w:World)(hG:td w)(hr:Rd w 1 A n (bs.map vb))(hc:n<=c)(hc2:c<=9223372036854775807)(hn:n<=1125899906842624):Calls Tryz.prog 21 #[.int .i64 kd,.slice A n c] w (No kd bs w):=by
 have HG:=ae hG;have HR:=ae hr;have HBL:Hid (bs.length=n):=gH hr;clear hG hr;go_in;go_wp2_with fail;refine(Nn kd hk w).mono ?_;rintro e w1 ⟨g,rfl,hg,h1,hb1⟩;have H1:=ae h1;have L1:=ae hb1;have R1:=ae (HR.out.below hb1);have G1:=ae (HG.out.below hb1);have N1:Hid (NT g):=HG.out.new hg;have HA1:Hid (0<n->∀ b o,A=some ⟨b,o,none⟩->¬ b=g):=fun hn b o e=>by
  obtain⟨b',o',e',hc'⟩:=HR.out.2 hn;rw[e'] at e;injection e with e;injection e with e _;have h0:0<(bs.map vb).length:=by rw[List.length_map,HBL.out];exact hn
  have:=World.block_lt_of_cell? _ _ (hc' 0 _ (gG h0));simp only at this;omega
 clear h1 hb1;go_wp2_with fail;refine(mv g kd n c hk [] bs A w1 G1.out N1.out H1.out R1.out HA1.out hc hc2 (by simp;omega)).mono ?_;rintro e w2 ⟨rfl,h2,g2⟩;have H2:Hid (cj w2 g kd bs):=by rw[List.nil_append] at h2;exact h2
 have L2:Hid (Below w.heap.size w w2):=L1.out.grown g2 L1.out.size (fun q hq=>by have:=Option.some.inj hq;omega);clear h2 g2;go_wp2_with fail;refine(Nl g kd hk bs w2 (HG.out.below L2.out) H2.out (by rw[HBL.out];exact hn)).mono ?_;rintro e w3 ⟨v,rfl,hrow,hb3⟩;have HP:Hid (No kd bs w (.returned v) w3):=⟨v,rfl,aY hrow L2.out.size,pj L2.out hb3⟩
 clear hrow hb3;go_wp2;go_ret;exact HP.out
end
section
open Go.RowKit Go.Maps
def ag.own (x:ag)(w:World)(lo:Nat):Prop:=w.ownsRow lo 5 1 (.slice x.da x.data.length x.dc) x.data.length (x.data.map vb)
structure ag.same (x y:ag):Prop where
 path:x.path=y.path
 kind:x.kind=y.kind
 mode:x.mode=y.mode
 uid:x.uid=y.uid
 gid:x.gid=y.gid
 owner:x.owner=y.owner
 group:x.group=y.group
 mtime:x.mtime=y.mtime
 link:x.link=y.link
 data:x.data=y.data
theorem ag.same.rfl' (x:ag):x.same x:=⟨rfl,rfl,rfl,rfl,rfl,rfl,rfl,rfl,rfl,rfl⟩
theorem qt (x:ag):∀ u∈x.cells,u.oneCell'=true:=by intro u hu;simp only[ag.cells,List.mem_cons,List.not_mem_nil,or_false] at hu;rcases hu with rfl | rfl | rfl | rfl | rfl | rfl | rfl | rfl | rfl | rfl<;>rfl
theorem Rr (l:LU):∀ u∈l.map vb,u.oneCell'=true:=by intro u hu;obtain⟨c,_,rfl⟩:=List.mem_map.1 hu;rfl
theorem Dj:(Tryz.prog.info? 35).map (fun i=>(i.zero,i.size,i.bytes))=some (some (.agg #[.string ⟨#[]⟩,.int .i64 0,.int .i64 0,.int .i64 0,.int .i64 0,.string ⟨#[]⟩,.string ⟨#[]⟩,.int .i64 0,.string ⟨#[]⟩,.slice none 0 0]),10,128):=by kernel_rfl
theorem Np:(Tryz.prog.info? 5).map (fun i=>(i.zero,i.size,i.bytes))=some (some (.int .u8 0),1,1):=by kernel_rfl
theorem Kk:(Tryz.prog.info? 9).map (fun i=>(i.zero,i.size,i.bytes))=some (some (.string ⟨#[]⟩),1,16):=by kernel_rfl
theorem Km (A:OA)(c:Nat)(l:List ag)(w:World)(hr:Rd w 10 A l.length (l.flatMap ag.cells))(hn:l.length<=100000):Calls Tryz.prog 112 #[.slice A l.length c] w (gI w 35 10 l.length (l.flatMap ag.cells)):=by
 obtain⟨i0,hi0,hz0,hz1,hz2⟩:=info_parts Dj;have HR:=ae hr;clear hr;have q:∀ (w:World)(a:OA)(n c n' c':Nat),(binOp .eql 28 (.slice a n c) (.slice none n' c')).run Tryz.prog w=.ok (.bool a.isNone) w:=fun w a n c n' c'=>Lib.run_eql_slice_nil w _ _ a n c n' c' Tryz.underlying28;cases A with
 | none=>
  have hl:l=[]:=by
   cases l with
   | nil=>rfl
   | cons a r=>obtain⟨_,_,h,_⟩:=HR.out.2 (by simp);cases h
  subst hl;go_in;go_wp2;go_ret;exact⟨_,rfl,World.ownsRow_nil _ _ _ _,bR⟩
 | some a=>
  have RL:=ae ((HR.out.below (bR.alloc lr (.cells #[] 35))).reads (by decide));go_in
  go_wp2_with (
   at_builtin
   refine au _ rfl _ _ 28 rfl w.heap.size 35 i0 _ 10 128 Tryz.underlying28 hi0 hz0 hz1 hz2 rfl (by omega) (.slice (some ⟨w.heap.size,0,none⟩) 0 0) 0 [] rfl (World.ownsRow_made w #[] 0 lr z0 rfl) _ (some a) l.length c _ rfl RL.out (jW qt l) (by simp only[maxLen];omega) (by omega) (by simp) ?_;intro v1 w1 hown1 hg1 hat1)
  go_ret;exact⟨v1,rfl,by simpa using hown1,((Below.refl _ w).alloc lr _).grown hg1 (by simp) (by intro k hk;simp[Value.ownBlock] at hk;omega)⟩
theorem yN (A:OA)(c:Nat)(l:List BA)(w:World)(hr:Rd w 1 A l.length (ay l))(hn:l.length<=100000):Calls Tryz.prog 28 #[.slice A l.length c] w (gI w 9 1 l.length (ay l)):=by
 obtain⟨i0,hi0,hz0,hz1,hz2⟩:=info_parts Kk;have HR:=ae hr;clear hr;have q:∀ (w:World)(a:OA)(n c n' c':Nat),(binOp .eql 22 (.slice a n c) (.slice none n' c')).run Tryz.prog w=.ok (.bool a.isNone) w:=fun w a n c n' c'=>Lib.run_eql_slice_nil w _ _ a n c n' c' Tryz.underlying22;cases A with
 | none=>
  have hl:l=[]:=by
   cases l with
   | nil=>rfl
   | cons a r=>obtain⟨_,_,h,_⟩:=HR.out.2 (by simp);cases h
  subst hl;go_in;go_wp2;go_ret;exact⟨_,rfl,World.ownsRow_nil _ _ _ _,bR⟩
 | some a=>
  have RL:=ae ((HR.out.below (bR.alloc lr (.cells #[] 9))).reads (by decide));go_in
  go_wp2_with (
   at_builtin
   refine au _ rfl _ _ 22 rfl w.heap.size 9 i0 _ 1 16 Tryz.underlying22 hi0 hz0 hz1 hz2 rfl (by omega) (.slice (some ⟨w.heap.size,0,none⟩) 0 0) 0 [] rfl (World.ownsRow_made w #[] 0 lr z0 rfl) _ (some a) l.length c _ rfl RL.out (zp l) (by simp only[maxLen];omega) (by omega) (by simp) ?_;intro v1 w1 hown1 hg1 hat1)
  go_ret;exact⟨v1,rfl,by simpa using hown1,((Below.refl _ w).alloc lr _).grown hg1 (by simp) (by intro k hk;simp[Value.ownBlock] at hk;omega)⟩
theorem sf (A:OA)(c n:Nat)(l:LU)(w:World)(hr:Rd w 1 A n (l.map vb))(hn:n<=10000000):Calls Tryz.prog 63 #[.slice A n c] w (gI w 5 1 n (l.map vb)):=by
 obtain⟨i0,hi0,hz0,hz1,hz2⟩:=info_parts Np;have HR:=ae hr;clear hr;have q:∀ (w:World)(a:OA)(n c n' c':Nat),(binOp .eql 33 (.slice a n c) (.slice none n' c')).run Tryz.prog w=.ok (.bool a.isNone) w:=fun w a n c n' c'=>Lib.run_eql_slice_nil w _ _ a n c n' c' Tryz.underlying33;cases A with
 | none=>
  obtain rfl:n=0:=by
   by_cases h:0<n
   ·obtain⟨_,_,h,_⟩:=HR.out.2 h;cases h
   ·omega
  have hl:l=[]:=by have:=HR.out.1;simp at this;exact this
  subst hl;go_in;go_wp2;go_ret;exact⟨_,rfl,World.ownsRow_nil _ _ _ _,bR⟩
 | some a=>
  have RL:=ae ((HR.out.below (bR.alloc lr (.cells #[] 5))).reads (by decide));go_in
  go_wp2_with (
   at_builtin
   refine au _ rfl _ _ 33 rfl w.heap.size 5 i0 _ 1 1 Tryz.underlying33 hi0 hz0 hz1 hz2 rfl (by omega) (.slice (some ⟨w.heap.size,0,none⟩) 0 0) 0 [] rfl (World.ownsRow_made w #[] 0 lr z0 rfl) _ (some a) n c _ rfl RL.out (Rr l) (by simp only[maxLen];omega) (by omega) (by simp) ?_;intro v1 w1 hown1 hg1 hat1)
  go_ret;exact⟨v1,rfl,by simpa using hown1,((Below.refl _ w).alloc lr _).grown hg1 (by simp) (by intro k hk;simp[Value.ownBlock] at hk;omega)⟩
theorem rx {α:Type}{f:α->LV}(hf:∀ x,(f x).length=sz)(qs r:List α)(p p':α)(k j:Nat)(u:Value)(hk:qs.length=k)(hj:j<sz)(hp:(f p).set j u=f p'):((qs++p::r).flatMap f).set (k*sz+j) u=(qs++p'::r).flatMap f:=by
 have hl:(qs.flatMap f).length=k*sz:=by rw[dw hf,hk]
 rw[List.flatMap_append,List.flatMap_cons,List.set_append_right _ _ (by omega),hl,show k*sz+j-k*sz=j from by omega,List.set_append_left _ _ (by rw[hf];omega),hp,List.flatMap_append,List.flatMap_cons]
end
section
open Go.RowKit Go.Shelf Go.Lib Go.Sort
theorem vV:∀ (a b:LU),Lib.compareBytes a b=if a<b then -1 else if b<a then 1 else 0
 | [],[]=>by simp[Lib.compareBytes]
 | [],_::_=>by simp[Lib.compareBytes]
 | _::_,[]=>by simp[Lib.compareBytes]
 | a::r,b::s=>by
  rw[Lib.compareBytes,vV r s];simp only[List.cons_lt_cons_iff];by_cases h:a<b
  ·simp[h]
  ·by_cases h2:b<a
   ·have h3:¬ a=b:=fun e=>by subst e;exact h h2
    simp[h,h2,h3]
   ·have h3:a=b:=by
     apply UInt8.toNat_inj.1;rw[UInt8.lt_iff_toNat_lt] at h h2;omega
    subst h3;simp
theorem Nq (x y:av)(W:World):Calls Tryz.prog 25 #[.agg x.cells.toArray,.agg y.cells.toArray] W fun e w'=>e=.returned (.int .i64 (Ld av.path x y))/\∃ q os',w'=grow (W.drewN q) os':=by
 have hS:=fun W=>Tryz.strings_Compare x.path y.path W;have E:Hid (Lib.compareBytes x.path.data.toList y.path.data.toList=Ld av.path x y):=by show _=_;rw[vV];rfl
 generalize Lib.compareBytes x.path.data.toList y.path.data.toList=r at hS E;unfold av.cells;go_in;go_wp2_with fail;refine(hS _).mono ?_;rintro e w' ⟨rfl,rfl⟩;go_wp2;go_ret;exact⟨aI E.out,0,_,by rw[alloc_eq_grow,alloc_eq_grow,grow_grow];rfl⟩
def vW {α:Type}(key:α->BA)(enc:α->LV)(t:TypeId)(k base:Nat)(v:Value)(l:List α)(w:World)(e:Ending)(w':World):Prop:=
 e=.returned (.tuple #[])/\∃ l':List α,l'.Perm l/\l'.Pairwise (fun x y=>¬ bl (key y)<bl (key x))/\w'.ownsRow base t k v l.length (l'.flatMap enc)/\w.grownBy w' v.ownBlock
instance:Inhabited av:=⟨⟨⟨#[]⟩,0,0,⟨#[]⟩,⟨#[]⟩,⟨#[]⟩,⟨#[]⟩,false⟩⟩
theorem Gj (A:OA)(cap base:Nat)(l:List av)(w:World)(h:w.ownsRow base 56 8 (.slice A l.length cap) l.length (l.flatMap av.cells))(hl:l.length<=100000):Calls Tryz.prog 24 #[.slice A l.length cap,.func (.func 25) #[] #[]] w (vW av.path av.cells 56 8 base (.slice A l.length cap) l w):=by
 by_cases hn:l=[]
 ·subst hn;refine(AnyF.slices_SortFunc_none Tryz.sortFile A cap _ w).mono ?_;rintro e w' ⟨rfl,rfl⟩;exact⟨rfl,[],.nil,.nil,h,World.grownBy.refl _ _⟩
 ·have hpos:0<l.length:=List.length_pos_iff.2 hn;obtain⟨g,hA,hb,hg,_,_⟩:=iR h hpos;subst hA;have eg:∀ args w,(callFunc 25 args).run Tryz.prog w=.ok (.enter 25 args) w:=enters_of Tryz.func25 (by kernel_rfl) rfl;have hcmp:CmpLays Tryz.prog 25 #[] av.cells 8 (Ld av.path) g 0 l.toArray.size w:=fun m os dk _ a b=>Nq a b _;have hH:=vU gg h;have hcon:=AnyQ.slices_SortFunc Tryz.sortFile 8 Tryz.isAgg56 Tryz.sizeOf56 av.cells gg (fun x v hv=>tT x v hv) (Ld av.path) (Hv av.path) 25 #[] g 0 cap l.toArray w eg hcmp hH hg (by simp;omega);refine hcon.mono ?_;rintro e w' ⟨rfl,d',n,os,hp,hs,rfl⟩;have hp':=yO (l:=l) rfl (by simpa using hp);have hd:d'.size=l.length:=by have:=hp'.length_eq;simpa using this
  obtain⟨h1,h2⟩:=Dk gg h d' hd n os;exact⟨rfl,d'.toList,hp',sg hd (by simpa using hs),h1,h2⟩
theorem xB (A:OA)(cap base n:Nat)(l:List av)(hn:Hid (l.length=n))(w:World)(h:w.ownsRow base 56 8 (.slice A n cap) n (l.flatMap av.cells))(hl:n<=100000):Calls Tryz.prog 24 #[.slice A n cap,.func (.func 25) #[] #[]] w (vW av.path av.cells 56 8 base (.slice A n cap) l w):=by
 have e:=hn.out;subst e;exact Gj A cap base l w h hl
end
end Go.Proofs.YtlglfpbhapmhiaaGreatDoor
