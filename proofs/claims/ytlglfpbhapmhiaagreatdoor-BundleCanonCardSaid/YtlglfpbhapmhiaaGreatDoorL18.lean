/- A part of the proof. -/
import Derived.Test.YtlglfpbhapmhiaaGreatDoorL12
import Derived.Test.YtlglfpbhapmhiaaGreatDoorL17
set_option maxRecDepth 100000
set_option maxHeartbeats 20000000
set_option linter.unusedVariables false
set_option linter.unusedSimpArgs false
namespace Go.Proofs.YtlglfpbhapmhiaaGreatDoor
variable{s:BA}{b:Bool}{c c':Int}{l nm q r r1 r2 v x:LU}{vs:LV}{xs:List BA}{a c1 cc k k' m n op p p':Nat}{A A1:OA}{w w' w2 wr:World}
section
open Go.RowKit Go.Deep
theorem Jc:(Tryz.prog.info? 226).map (fun i=>(i.zero,i.size,i.bytes))=some (some (.agg #[.bool false,.string ⟨#[]⟩,.int .i64 0,.string ⟨#[]⟩]),4,48):=by kernel_rfl
structure xi (w wr:World) (L:List gT) (A:OA) (n c:Nat):Prop where
 len:L.length=n
 row:wr.ownsRow (w.heap.size+1) 226 4 (.slice A n c) n (L.flatMap gT.cells)
 ret:ax wr w.heap.size [.string ⟨#[]⟩,.int .i64 0,.int .i64 0]
 bel:Below w.heap.size w wr
theorem xi.below {L:List gT}{c:Nat}(h:xi w wr L A n c)(hb:Below wr.heap.size wr w'):xi w w' L A n c:=
 ⟨h.len,aL h.row hb,h.ret.below hb,aq h.bel hb⟩
theorem xi.start (w:World):xi w (w.alloc (.cells #[.string ⟨#[]⟩,.int .i64 0,.int .i64 0] 163)) [] none 0 0:=
 ⟨rfl,World.ownsRow_nil _ _ _ _,ax.new w _ _,bR.alloc lr _⟩
theorem xi.grow {L:List gT}{c:Nat}{o1 o2:Obj}{x:gT}(h:xi w wr L A n c)
  (hr:w2.ownsRow (w.heap.size+1) 226 4 (.slice A1 (n+1) c1) (n+1) (L.flatMap gT.cells++x.cells))
  (hg:((wr.alloc o1).alloc o2).grownBy w2 (Value.slice A n c).ownBlock):xi w w2 (L++[x]) A1 (n+1) c1:=by
 have hb:=h.bel.size;have hB:Below w.heap.size w ((wr.alloc o1).alloc o2):=(h.bel.alloc h.bel.size o1).alloc (by simp;omega) o2;have hR:ax ((wr.alloc o1).alloc o2) w.heap.size [.string ⟨#[]⟩,.int .i64 0,.int .i64 0]:=(h.ret.alloc o1).alloc o2;refine⟨by simp[h.len],by rw[List.flatMap_append];simpa using hr,?_,?_⟩
 ·have hk:w2.heap[w.heap.size]?=((wr.alloc o1).alloc o2).heap[w.heap.size]?:=hg.block _ hR.sz (by intro e;have:=(h.row.lt _ e.symm).1;omega);refine⟨Nat.lt_of_lt_of_le hR.sz hg.size,fun j u hu=>?_,fun j hj=>?_⟩
  ·exact(World.cell?_of_block (a:=⟨w.heap.size,j,none⟩) hk).trans (hR.cell j u hu)
  ·exact(World.frozen?_of_block (a:=⟨w.heap.size,j,none⟩) hk).trans (hR.free j hj)
 ·exact hB.grown hg hB.size (fun j hj=>by have:=(h.row.lt j hj).1;omega)
def EH (r:Option (List gT))(w:World)(e:Ending)(w':World):Prop:=
 ∃ (A:OA) (n c:Nat) (f:BA) (a code:Int),e=.returned (.tuple #[.slice A n c,fj f a code])/\Below w.heap.size w w' /\
  (match r with
   | some L=>code=0/\n=L.length/\w'.ownsRow w.heap.size 226 4 (.slice A n c) n (L.flatMap gT.cells)
   | none=>code≠0/\A=none/\n=0)
theorem EI (w:World)(t:TypeId)(a b c d:Value):eQ (w.alloc (.cells #[a,b,c,d] t)) (w.heap.size+1) 4 (some ⟨w.heap.size,0,none⟩) 1 [a,b,c,d]:=by
 refine⟨rfl,fun _=>⟨_,rfl,by simp,fun j u hu=>?_⟩⟩
 match j,hu with
 | 0,hu=>simp at hu;subst hu;simp[Addr.add]
 | 1,hu=>simp at hu;subst hu;simp[Addr.add]
 | 2,hu=>simp at hu;subst hu;simp[Addr.add]
 | 3,hu=>simp at hu;subst hu;simp[Addr.add]
 | j+4,hu=>simp at hu
theorem OU (l:LU):(Lib.cut l [32]).1=l.take (aE dZ l):=by
 by_cases h:aE dZ l<l.length
 ·obtain⟨a,r,hd,ha⟩:=nH l h;have ha:a=32:=by simpa [dZ] using ha
  subst ha;have h1:l[aE dZ l]?=some 32:=by
   have:=congrArg (fun x=>x[0]?) hd;simpa [List.getElem?_drop] using this
  have h0:(l.take (aE dZ l)).contains 32=false:=by
   cases hc:(l.take (aE dZ l)).contains 32 with
   | false=>rfl
   | true=>
    have hm:(32:UInt8)∈l.take (aE dZ l):=by simpa using hc
    have:l.take (aE dZ l)=l.takeWhile dZ:=by unfold aE;exact(List.prefix_iff_eq_take.1 (List.takeWhile_prefix _)).symm
    rw[this] at hm;have:=List.all_eq_true.1 (List.all_takeWhile (p:=dZ) (l:=l)) 32 hm;simp[dZ] at this
  rw[QM l _ h0 h1]
 ·have hl:=gC dZ l;have he:aE dZ l=l.length:=by omega
  have hc:l.contains 32=false:=by
   cases hc:l.contains 32 with
   | false=>rfl
   | true=>
    have hm:(32:UInt8)∈l:=by simpa using hc
    have:l.takeWhile dZ=l:=by
     have:=List.prefix_iff_eq_take.1 (List.takeWhile_prefix (p:=dZ) (l:=l));rw[this];exact tL (by unfold aE at he;omega)
    rw[<-this] at hm;have:=List.all_eq_true.1 (List.all_takeWhile (p:=dZ) (l:=l)) 32 hm;simp[dZ] at this
  rw[LM l hc,he,List.take_length]
theorem ie {base b j:Nat}{e:TypeId}{size c:Nat}{xs:LV}{v:Value}(h:w.ownsRow base e size (.slice A n c) n xs)(hb:b<base):(w.setCell ⟨b,j,none⟩ v).ownsRow base e size (.slice A n c) n xs:=by
 have hg:w.grownBy (w.setCell ⟨b,j,none⟩ v) (some b):=ap (World.grownBy.refl w (some b)) (.inl rfl) _;refine h.kept hg ?_;cases hq:(Value.slice A n c).ownBlock with
 | none=>exact .inl rfl
 | some q=>right;intro he;injection he with he;have:=(h.lt q hq).1;omega
theorem EJ (s:BA)(w:World)(hG:zL w)(hs:s.size<=4294967280):Calls Tryz.prog 127 #[.string s] w (EH (iJ (bl s)) w):=by
 obtain⟨i0,hi0,hz0,hz1,hz2⟩:=info_parts Jc;have HG:=ae hG;clear hG;go_in;go_wp2;go_loopw [4,5] (fun l p wr=>∃ (L:List gT) (A:OA) (n c k f:Nat),l=.slice A n c/\p=.int .i64 k/\k<=s.size/\n<=64/\Hid (xi w wr L A n c)/\Hid (iJ (bl s)=mP (f+1) L ((bl s).drop k))/\Hid (s.size-k<=f)) (fun _ p _=>s.size-(intOf p).toNat)
 case atStart=>exact⟨[],none,0,0,0,s.size,rfl,rfl,z0,by omega,xi.start w,by show _=_;rw[List.drop_zero,<-ah];exact En _,lr⟩
 case round=>
  obtain⟨L,A,n,c,k,f,rfl,rfl,hk,hn,HR,HN,HF⟩:=hrel;by_cases hlt:k<s.size
  ·have HD:Hid ((bl s).drop k=s[k]::(bl s).drop (k+1)):=by
    show _=_;rw[List.drop_eq_getElem_cons (by rw[ah];exact hlt),iC s k hlt]
   obtain⟨d,hd⟩:∃ d:UInt8,s[k]=d:=⟨_,rfl⟩
   rw[hd] at HD;by_cases hd32:d.toNat=32
   ·have hdd:d=32:=UInt8.toNat_inj.1 hd32;have HN2:Hid (iJ (bl s)=mP (f+1) L ((bl s).drop (k+1))):=by show _=_;rw[HN.out,HD.out,hdd,Eo]
    have HF2:Hid (s.size-(k+1)<=f):=by have:=HF.out;show _<=_;omega
    clear hdd;go_wp2;go_roundw
    case rel=>exact⟨L,A,n,c,k+1,f,rfl,by go_num,by omega,hn,HR,HN2,HF2⟩
    case measure=>simp[intOf];omega
   ·obtain⟨R,hR⟩:∃ R,s.extract k s.size=R:=⟨_,rfl⟩
    have hRb:bl R=(bl s).drop k:=by rw[<-hR,cO]
    have hRz:R.size=s.size-k:=by rw[<-ah,hRb,List.length_drop,ah]
    obtain⟨Wd,hWd⟩:∃ Wd,ir R ⟨#[32]⟩=Wd:=⟨_,rfl⟩
    have hWb:bl Wd=((bl s).drop k).take (aE dZ ((bl s).drop k)):=by
     rw[<-hWd,<-hRb,<-OU];unfold ir;rw[jB];rfl
    have hink:dZ (((bl s).drop k).headD 32)=true:=by
     rw[HD.out];simp only[List.headD_cons,dZ];simp;intro e;exact hd32 (by rw[e];rfl)
    have hWz:Wd.size=aE dZ ((bl s).drop k):=by
     rw[<-ah,hWb,List.length_take];have:=gC dZ ((bl s).drop k);omega
    have hWp:0<Wd.size:=by
     rw[hWz,HD.out];have:dZ d=true:=by rw[HD.out] at hink;exact hink
     simp[aE,this]
    have hWl:Wd.size<=s.size-k:=by
     rw[hWz];have:=gC dZ ((bl s).drop k);rw[List.length_drop,ah] at this;exact this
    have HK:=ae hink;have HWB:=ae hWb;have HWZ:=ae hWz;clear hink hWb hWz hRb;have hkk:(k:Int)<=(s.size:Int):=by omega
    go_wp2_with fail;refine(bV R ⟨#[32]⟩ _ (HG.out.1.below HR.out.bel) (by omega)).mono ?_;rintro e w1 ⟨rfl,hb1⟩;rw[hWd];have HR1:=ae (HR.out.below hb1);clear hb1 hWd hR;by_cases h64:n=64
    ·have E:Hid (iJ (bl s)=none):=by
      show _=_;rw[HN.out];exact Ep HK.out (by rw[HR1.out.len];exact h64)
     have h64':((n:Int)==64)=true:=by simp;omega
     have r0:=HR1.out.ret.cell 0 _ rfl;have r1:=HR1.out.ret.cell 1 _ rfl;have r2:=HR1.out.ret.cell 2 _ rfl;have fr0:=HR1.out.ret.free 0 (by simp);have fr1:=HR1.out.ret.free 1 (by simp);have fr2:=HR1.out.ret.free 2 (by simp);go_wp2_with fail;refine bodyPost_ret (v:=.tuple #[.slice none 0 0,.agg #[.string ⟨#[]⟩,.int .i64 k,.int .i64 4]]) (by simp[results,Tryz.results127,go_sem,r0,r1,r2]) rfl ?_;refine⟨none,0,0,⟨#[]⟩,k,4,rfl,?_,by rw[E.out];exact⟨by decide,rfl,rfl⟩⟩;exact ai (ai (ai HR1.out.bel lr _) lr _) lr _
    have h64':((n:Int)==64)=false:=by simp;omega
    go_wp2_with fail;refine(Et Wd _ (HG.out.1.below HR1.out.bel) (by omega)).mono ?_;rintro e w2 ⟨hpost,hb2⟩;have HR2:=ae (HR1.out.below hb2);clear hb2;cases hw:ix (bl Wd) with
    | none=>
     rw[hw] at hpost;obtain⟨a,y,hy,rfl⟩:=hpost;have E:Hid (iJ (bl s)=none):=by
      show _=_;rw[HN.out];exact IN HK.out (by rw[<-HWB.out];exact hw)
     have HY:=wQ.mk hy;clear hw hy;unfold yk;go_wp2_with fail;have HR3:=ae (HR2.out.below (bR.alloc lr (.cells #[.bool false,.string ⟨#[]⟩,.int .i64 0,.string ⟨#[]⟩] 226)));refine(zN a y k _ (HG.out.below HR3.out.bel)).mono ?_;rintro e w4 ⟨⟨q,rfl⟩,hb4⟩;have HR4:=ae (HR3.out.below hb4);clear hb4;have r0:=HR4.out.ret.cell 0 _ rfl;have r1:=HR4.out.ret.cell 1 _ rfl;have r2:=HR4.out.ret.cell 2 _ rfl;have fr0:=HR4.out.ret.free 0 (by simp);have fr1:=HR4.out.ret.free 1 (by simp);have fr2:=HR4.out.ret.free 2 (by simp);unfold fj;go_wp2_with fail;refine bodyPost_ret (v:=.tuple #[.slice none 0 0,.agg #[.string ⟨#[]⟩,.int .i64 q,.int .i64 y]]) (by simp[results,Tryz.results127,go_sem,r0,r1,r2]) rfl ?_;refine⟨none,0,0,⟨#[]⟩,q,y,rfl,?_,by rw[E.out];exact⟨HY.out,rfl,rfl⟩⟩;exact ai (ai (ai HR4.out.bel lr _) lr _) lr _
    | some x=>
     rw[hw] at hpost;obtain rfl:=hpost;have HN2:Hid (iJ (bl s)=mP (f-1+1) (L++[x]) ((bl s).drop (k+Wd.size))):=by
      have hf:=HF.out;show _=_;rw[HN.out,IP HK.out (by rw[HR2.out.len];exact h64) (by rw[<-HWB.out];exact hw),List.drop_drop,HWZ.out,show f-1+1=f by omega]
     have HF2:Hid (s.size-(k+Wd.size)<=f-1):=by have:=HF.out;show _<=_;omega
     clear hw;unfold gT.val;go_wp2_with (at_builtin;refine au _ rfl _ _ _ rfl (w.heap.size+1) 226 i0 _ 4 48 Tryz.underlying174 hi0 hz0 hz1 hz2 rfl (by omega) (.slice A n c) n _ rfl ((HR2.out.row.alloc _).alloc _) (w2.heap.size+1+1) (some ⟨w2.heap.size+1,0,none⟩) 1 1 x.cells rfl (by have:=EI (w2.alloc (.cells x.cells.toArray 226)) 226 (.bool x.no) (.string (bU x.name)) (.int .i64 x.op) (.string (bU x.ver));simpa [gT.cells] using this) (by simp[Value.oneCell',gT.cells]) (by simp only[maxLen];omega) (by omega) (by simp;have:=HR2.out.ret.sz;omega) ?_;intro v1 w3 o1 g1 a1);obtain⟨A1,c1,rfl⟩:=aN o1;have R3:=ae (HR2.out.grow (x:=x) o1 g1);clear o1 g1 a1;go_wp2;go_roundw
     case rel=>exact⟨L++[x],A1,n+1,c1,k+Wd.size,f-1,rfl,by go_num,by omega,by omega,R3,HN2,HF2⟩
     case measure=>simp[intOf];omega
  ·have E:Hid (iJ (bl s)=some L):=by
    show _=_;rw[HN.out,List.drop_of_length_le (by rw[ah];omega),LP]
   have r0:=HR.out.ret.cell 0 _ rfl;have r1:=HR.out.ret.cell 1 _ rfl;have r2:=HR.out.ret.cell 2 _ rfl;have fr0:=HR.out.ret.free 0 (by simp);have fr1:=HR.out.ret.free 1 (by simp);have fr2:=HR.out.ret.free 2 (by simp);go_wp2_with fail;refine bodyPost_ret (v:=.tuple #[.slice A n c,.agg #[.string ⟨#[]⟩,.int .i64 0,.int .i64 0]]) (by simp[results,Tryz.results127,go_sem,r0,r1,r2]) rfl ?_;refine⟨A,n,c,⟨#[]⟩,0,0,rfl,?_,?_⟩
   ·exact ai (ai (ai HR.out.bel lr _) lr _) lr _
   ·rw[E.out];exact⟨rfl,HR.out.len.symm,aY (ie (ie (ie HR.out.row (Nat.lt_succ_self _)) (Nat.lt_succ_self _)) (Nat.lt_succ_self _)) (Nat.le_succ _)⟩
theorem iL {w1:World}{row:Option Nat}(h:w.grownBy wr (some a))(k:wr.grownBy w1 row)(hr:∀ j,row=some j->w.heap.size<=j):w.grownBy w1 (some a):=
 ⟨k.os.trans h.os,k.tape.trans h.tape,k.output.trans h.output,Nat.le_trans h.size k.size,fun j hj hne=>(k.block j (Nat.lt_of_lt_of_le hj h.size) (fun e=>by have:=hr j e.symm;omega)).trans (h.block j hj hne)⟩
structure Je (w wr:World) (a:Nat) (s:BA) (k n:Nat) (c:Int) (xs:List BA) (A:OA) (m cc:Nat):Prop where
 len:xs.length=m
 row:wr.ownsRow w.heap.size 9 1 (.slice A m cc) m (ay xs)
 dr:DR wr a s k n c
 gr:w.grownBy wr (some a)
 lt:a<w.heap.size
theorem Je.step (h:Je w wr a s k n c xs A m cc)(hg:wr.grownBy w' (some a))(hd:DR w' a s k' n c'):Je w w' a s k' n c' xs A m cc:=
 ⟨h.len,aP h.row h.lt hg,hd,ak h.gr hg,h.lt⟩
theorem Je.alloc (h:Je w wr a s k n c xs A m cc)(o:Obj):Je w (wr.alloc o) a s k n c xs A m cc:=
 ⟨h.len,h.row.alloc o,h.dr.alloc o,eK h.gr o,h.lt⟩
theorem Je.grow {o:Obj}{x:BA}(h:Je w wr a s k n c xs A m cc)
  (hr:w2.ownsRow w.heap.size 9 1 (.slice A1 (m+1) c1) (m+1) (ay xs++[.string x]))
  (hg:(wr.alloc o).grownBy w2 (Value.slice A m cc).ownBlock):Je w w2 a s k n c (xs++[x]) A1 (m+1) c1:=by
 have ho:=h.alloc o;refine⟨by simp[h.len],by rw[show ay (xs++[x])=ay xs++[.string x] by simp[ay]];exact hr,ho.dr.kept hg ?_,iL ho.gr hg (fun j hj=>(h.row.lt j hj).1),h.lt⟩;intro e;have:=(h.row.lt a e.symm).1;have:=h.lt;omega
def fH (r:Option (List (LU)×LU))(a:Nat)(s:BA)(p n:Nat)(c:Int)(w:World)(e:Ending)(w':World):Prop:=
 match r with
  | none=>w.grownBy w' (some a)/\e=.returned (.tuple #[.slice none 0 0,.bool false])/\∃ p' c',DR w' a s p' n c'
  | some (L,r)=>∃ (A:OA) (m cc:Nat) (xs:List BA) (p':Nat) (c':Int),e=.returned (.tuple #[.slice A m cc,.bool true])/\Je w w' a s p' n c' xs A m cc/\xs.map bl=L/\p<=p'/\(bl s).drop p'=r/\(c'=0↔c=0/\L.all (fun x=>dI (cE x))=true)
theorem fH.no {r:Option (List (LU)×LU)}(hr:r=none)(hg:w.grownBy w' (some a))(h:DR w' a s p' n c'):fH r a s p n c w (.returned (.tuple #[.slice none 0 0,.bool false])) w':=by
 subst hr;exact⟨hg,rfl,_,_,h⟩
theorem fH.yes {r:Option (List (LU)×LU)}(hr:r=some (xs.map bl,(bl s).drop p'))(h:Je w w' a s p' n c' xs A m cc)(hp:p<=p')(hc:c'=0↔c=0/\(xs.map bl).all (fun x=>dI (cE x))=true):fH r a s p n c w (.returned (.tuple #[.slice A m cc,.bool true])) w':=by
 subst hr;exact⟨A,m,cc,xs,p',c',rfl,h,rfl,hp,rfl,hc⟩
theorem ym (hm:aA 33 ((bl s).drop k)=b)(hk:m=if b then k+1 else k)(ht:mR jC ((bl s).drop m)=none):jq ((bl s).drop k)=none:=by
 unfold jq cE;rw[hm];cases b<;>simp at hk<;>subst hk<;>simp[List.drop_drop,ht]
theorem yn (hm:aA 33 ((bl s).drop k)=b)(hk:m=if b then k+1 else k)(ht:mR jC ((bl s).drop m)=some (x,r)):jq ((bl s).drop k)=some ((if b then [33] else [])++x,r):=by
 unfold jq cE xW;rw[hm];cases b<;>simp at hk<;>subst hk<;>simp[List.drop_drop,ht]
theorem yo (h:jq l=some (x,r)){y:LU}(hx:x=(if b then [33] else [])++y)(hm:aA 33 l=b):cE x=y:=by
 obtain⟨z,h1,h2,h3⟩:=rT h;rw[h3];unfold xW at h2;rw[hm] at h2;rw[hx] at h2;cases b<;>simpa using h2.symm
theorem EP (F:Nat)(a:Nat)(s:BA)(p n:Nat)(c:Int)(w:World)(hs:s.size<=4294967280)(hF:s.size-p<F)(h:DR w a s p n c):Calls Tryz.prog 261 #[.pointer (some ⟨a,0,none⟩)] w (fH (fF F (aO ((bl s).drop p))) a s p n c w):=by
 obtain⟨i0,hi0,hz0,hz1,hz2⟩:=info_parts ly;obtain⟨q,hq⟩:∃ q,p+aE aX ((bl s).drop p)=q:=⟨_,rfl⟩
 have hB:=aK a s p n c w hs h;rw[hq] at hB;have hlt:=h.sz;have HQ:Hid (p<=q):=by show _<=_;omega
 obtain⟨f0,hf0⟩:∃ f0,F=f0+1:=⟨F-1,by omega⟩
 have E0:Hid (fF F (aO ((bl s).drop p))=eL (f0+1) [] ((bl s).drop q)):=by show _=_;rw[cg,hq,wZ,hf0]
 have HF0:Hid (s.size-q<=f0):=by have:=HQ.out;show _<=_;omega
 generalize fF F (aO ((bl s).drop p))=RR at E0;clear hq h hf0 hF;go_in;go_wp2_with fail;refine hB.mono ?_;rintro e w1 ⟨rfl,hd,hg⟩;have S1:Hid (Je w w1 a s q n c [] none 0 0):=⟨rfl,World.ownsRow_nil _ _ _ _,hd,hg,hlt⟩
 have hqs:=hd.le;clear hd hg hB;go_wp2;go_loopw [2,3,4] (fun s2 s3 l wr=>∃ (k m cc f:Nat) (c':Int) (xs:List BA) (A:OA),s2=.slice none 0 0/\s3=.bool false/\l=.slice A m cc/\k<=s.size/\m<=k/\Hid (Je w wr a s k n c' xs A m cc)/\Hid (p<=k)/\Hid (RR=eL (f+1) (xs.map bl) ((bl s).drop k))/\Hid (s.size-k<=f)/\Hid (c'=0↔c=0/\(xs.map bl).all (fun x=>dI (cE x))=true)) (fun _ _ _ wr=>s.size-zJ a wr)
 case atStart=>exact⟨q,0,0,f0,c,[],none,rfl,rfl,rfl,hqs,z0,S1,HQ,E0,HF0,by simp[Hid]⟩
 case round=>
  clear S1 hqs HQ E0 HF0;obtain⟨k,m,cc,f,c',xs,A,rfl,rfl,rfl,hk,hmk,HS,HP,HE,HF,HC⟩:=hrel;have MA:=ae HS.out.dr.at_;cases hm:aA 33 ((bl s).drop k) with
  | true=>
   have HM:=ae hm;clear hm;go_wp2_with fail;refine(aQ 33 a s k n c' wr hs HS.out.dr HM).mono ?_;rintro e w2 ⟨rfl,hd,hg⟩;have S2:=ae (HS.out.step hg hd);clear hd hg;have hk1:=S2.out.dr.le;cases ht:mR jC ((bl s).drop (k+1)) with
   | none=>
    have HT:=ae ht;have EN:Hid (RR=none):=by show _=_;rw[HE.out];exact pV (ym HM.out rfl ht)
    clear ht;go_wp2_with fail;refine(js a s (k+1) n c' w2 hs S2.out.dr HT).mono ?_;rintro e w3 ⟨rfl,hd,hg⟩;have S3:=ae (S2.out.step hg hd);clear hd hg;go_wp2;go_ret2;exact fH.no EN.out S3.out.gr S3.out.dr
   | some xr=>
    obtain⟨x,r⟩:=xr;have HT:=ae ht;obtain⟨t1,t2,t3,t4⟩:=eC S2.out.dr.le ht;have A1:=ae (yn HM.out rfl ht);have AB:=ae (yo A1.out rfl HM.out);obtain⟨k2,hk2⟩:∃ k2,(k+1)+x.length+aE aX ((bl s).drop ((k+1)+x.length))=k2:=⟨_,rfl⟩
    have SK:Hid (aO r=(bl s).drop k2):=by show _=_;rw[<-t2,cg,hk2]
    have HH32:Hid (aA 32 ((bl s).drop ((k+1)+x.length))=aA 32 r):=by show _=_;rw[t2]
    have HK2:Hid (k<k2):=by show _<_;omega
    have hxz:(bU x).size<=4294967280:=by rw[cA];omega
    have hmm:m<=4294967280:=by omega
    have HB2:=ae (fun (d:Int) (W:World) (hD:DR W a s ((k+1)+x.length) n d)=>aK a s ((k+1)+x.length) n d W hs hD);rw[hk2,HH32.out] at HB2;obtain⟨Y,hY⟩:∃ Y,(⟨#[33]⟩++bU x)=Y:=⟨_,rfl⟩
    have HY:Hid (bl Y=(if true then [33] else [])++x):=by show _=_;rw[<-hY];simp[cK,fA];rfl
    clear ht t1 t2 t3 t4 hk2 HH32;go_wp2_with fail;refine(jt x r a s (k+1) n c' w2 hs S2.out.dr HT).mono ?_;rintro e w3 ⟨rfl,⟨c2,hd,hcc⟩,hg⟩;have S3:=ae (S2.out.step hg hd);clear hd hg;have HC2:Hid (c2=0↔c=0/\((xs++[Y]).map bl).all (fun x=>dI (cE x))=true):=by
     have h1:=HC.out;have h2:=HY.out;have h3:=AB.out;show _↔_;rw[hcc,h1,List.map_append,List.all_append];simp only[List.map_cons,List.map_nil,List.all_cons,List.all_nil,Bool.and_true,Bool.and_eq_true];rw[h2,h3];exact and_assoc
    clear hcc;go_wp2_with (at_builtin;refine au _ rfl _ _ _ rfl w.heap.size 9 i0 _ 1 16 Tryz.underlying22 hi0 hz0 hz1 hz2 rfl (by omega) (.slice A m cc) m _ rfl (S3.out.row.alloc _) (w3.heap.size+1) (some ⟨w3.heap.size,0,none⟩) 1 1 [.string Y] rfl (gK w3 _ _) (by simp[Value.oneCell']) (by simp only[maxLen];omega) (by omega) (by simp;have:=S3.out.gr.size;omega) ?_;intro v1 w4 o1 g1 a1);obtain⟨A4,c4,rfl⟩:=aN o1;have S4:=ae (S3.out.grow (x:=Y) o1 g1);clear o1 g1 a1;go_wp2_with fail;refine(HB2.out c2 w4 S4.out.dr).mono ?_;rintro e w5 ⟨rfl,hd,hg⟩;have S5:=ae (S4.out.step hg hd);clear hd hg;have hk2s:=S5.out.dr.le;cases h93:aA 93 ((bl s).drop k2) with
    | true=>
     have H93:=ae h93;obtain⟨k3,hk3⟩:∃ k3,k2+1+aE aX ((bl s).drop (k2+1))=k3:=⟨_,rfl⟩
     have EN:Hid (RR=some ((xs++[Y]).map bl,(bl s).drop k3)):=by
      show _=_;rw[HE.out,rR A1.out (by rw[SK.out];exact h93),SK.out,List.drop_drop,cg,hk3,List.map_append,List.map_cons,List.map_nil,HY.out]
     have HB3:=ae (fun (W:World) (hD:DR W a s (k2+1) n c2)=>aK a s (k2+1) n c2 W hs hD);rw[hk3] at HB3;have HP3:Hid (p<=k3):=by have:=HP.out;have:=HK2.out;show _<=_;omega
     clear h93 hk3;go_wp2_with fail;refine(aQ 93 a s k2 n c2 w5 hs S5.out.dr H93).mono ?_;rintro e w6 ⟨rfl,hd,hg⟩;have S6:=ae (S5.out.step hg hd);clear hd hg;go_wp2_with fail;refine(HB3.out w6 S6.out.dr).mono ?_;rintro e w7 ⟨rfl,hd,hg⟩;have S7:=ae (S6.out.step hg hd);clear hd hg;go_wp2;go_ret2;exact fH.yes EN.out S7.out HP3.out HC2.out
    | false=>
     have H93:=ae h93;cases h32:aA 32 r with
     | true=>
      have EN:Hid (RR=eL (f-1+1) ((xs++[Y]).map bl) ((bl s).drop k2)):=by
       have hf:=HF.out;have hk':=HK2.out;show _=_;rw[HE.out,pW A1.out (by rw[SK.out];exact h93) h32,SK.out,List.map_append,List.map_cons,List.map_nil,HY.out,show f-1+1=f by omega]
      have HF2:Hid (s.size-k2<=f-1):=by have:=HF.out;have:=HK2.out;show _<=_;omega
      have HP2:Hid (p<=k2):=by have:=HP.out;have:=HK2.out;show _<=_;omega
      have hmk2:m+1<=k2:=by have:=HK2.out;omega
      clear h93 h32;go_wp2_with fail;refine(aG 93 a s k2 n c2 w5 hs S5.out.dr H93).mono ?_;rintro e w6 ⟨rfl,hd,hg⟩;have S6:=ae (S5.out.step hg hd);clear hd hg;go_wp2;go_roundw
      case rel=>exact⟨k2,m+1,c4,f-1,c2,xs++[Y],A4,rfl,rfl,rfl,hk2s,hmk2,S6,HP2,EN,HF2,HC2⟩
      case measure=>rw[S6.out.dr.at_,MA.out];have:=HK2.out;omega
     | false=>
      have EN:Hid (RR=none):=by show _=_;rw[HE.out];exact rS A1.out (by rw[SK.out];exact h93) h32
      clear h93 h32;go_wp2_with fail;refine(aG 93 a s k2 n c2 w5 hs S5.out.dr H93).mono ?_;rintro e w6 ⟨rfl,hd,hg⟩;have S6:=ae (S5.out.step hg hd);clear hd hg;go_wp2;go_ret2;exact fH.no EN.out S6.out.gr S6.out.dr
  | false=>
   have HM:=ae hm;clear hm;go_wp2_with fail;refine(aG 33 a s k n c' wr hs HS.out.dr HM).mono ?_;rintro e w2 ⟨rfl,hd,hg⟩;have S2:=ae (HS.out.step hg hd);clear hd hg;have hk1:=S2.out.dr.le;cases ht:mR jC ((bl s).drop k) with
   | none=>
    have HT:=ae ht;have EN:Hid (RR=none):=by show _=_;rw[HE.out];exact pV (ym HM.out rfl ht)
    clear ht;go_wp2_with fail;refine(js a s k n c' w2 hs S2.out.dr HT).mono ?_;rintro e w3 ⟨rfl,hd,hg⟩;have S3:=ae (S2.out.step hg hd);clear hd hg;go_wp2;go_ret2;exact fH.no EN.out S3.out.gr S3.out.dr
   | some xr=>
    obtain⟨x,r⟩:=xr;have HT:=ae ht;obtain⟨t1,t2,t3,t4⟩:=eC S2.out.dr.le ht;have A1:=ae (yn HM.out rfl ht);have AB:=ae (yo A1.out rfl HM.out);obtain⟨k2,hk2⟩:∃ k2,k+x.length+aE aX ((bl s).drop (k+x.length))=k2:=⟨_,rfl⟩
    have SK:Hid (aO r=(bl s).drop k2):=by show _=_;rw[<-t2,cg,hk2]
    have HH32:Hid (aA 32 ((bl s).drop (k+x.length))=aA 32 r):=by show _=_;rw[t2]
    have HK2:Hid (k<k2):=by show _<_;omega
    have hxz:(bU x).size<=4294967280:=by rw[cA];omega
    have hmm:m<=4294967280:=by omega
    have HB2:=ae (fun (d:Int) (W:World) (hD:DR W a s (k+x.length) n d)=>aK a s (k+x.length) n d W hs hD);rw[hk2,HH32.out] at HB2;obtain⟨Y,hY⟩:∃ Y,(bU x)=Y:=⟨_,rfl⟩
    have HY:Hid (bl Y=(if false then [33] else [])++x):=by show _=_;rw[<-hY];simp[cK,fA]
    have hYz:Y.size<=4294967280:=by rw[<-hY];exact hxz
    clear ht t1 t2 t3 t4 hk2 HH32;go_wp2_with fail;refine(jt x r a s k n c' w2 hs S2.out.dr HT).mono ?_;rintro e w3 ⟨rfl,⟨c2,hd,hcc⟩,hg⟩;have S3:=ae (S2.out.step hg hd);clear hd hg;have HC2:Hid (c2=0↔c=0/\((xs++[Y]).map bl).all (fun x=>dI (cE x))=true):=by
     have h1:=HC.out;have h2:=HY.out;have h3:=AB.out;show _↔_;rw[hcc,h1,List.map_append,List.all_append];simp only[List.map_cons,List.map_nil,List.all_cons,List.all_nil,Bool.and_true,Bool.and_eq_true];rw[h2,h3];exact and_assoc
    clear hcc;go_wp2_with (at_builtin;refine au _ rfl _ _ _ rfl w.heap.size 9 i0 _ 1 16 Tryz.underlying22 hi0 hz0 hz1 hz2 rfl (by omega) (.slice A m cc) m _ rfl (S3.out.row.alloc _) (w3.heap.size+1) (some ⟨w3.heap.size,0,none⟩) 1 1 [.string Y] rfl (gK w3 _ _) (by simp[Value.oneCell']) (by simp only[maxLen];omega) (by omega) (by simp;have:=S3.out.gr.size;omega) ?_;intro v1 w4 o1 g1 a1);obtain⟨A4,c4,rfl⟩:=aN o1;have S4:=ae (S3.out.grow (x:=Y) o1 g1);clear o1 g1 a1;go_wp2_with fail;refine(HB2.out c2 w4 S4.out.dr).mono ?_;rintro e w5 ⟨rfl,hd,hg⟩;have S5:=ae (S4.out.step hg hd);clear hd hg;have hk2s:=S5.out.dr.le;cases h93:aA 93 ((bl s).drop k2) with
    | true=>
     have H93:=ae h93;obtain⟨k3,hk3⟩:∃ k3,k2+1+aE aX ((bl s).drop (k2+1))=k3:=⟨_,rfl⟩
     have EN:Hid (RR=some ((xs++[Y]).map bl,(bl s).drop k3)):=by
      show _=_;rw[HE.out,rR A1.out (by rw[SK.out];exact h93),SK.out,List.drop_drop,cg,hk3,List.map_append,List.map_cons,List.map_nil,HY.out]
     have HB3:=ae (fun (W:World) (hD:DR W a s (k2+1) n c2)=>aK a s (k2+1) n c2 W hs hD);rw[hk3] at HB3;have HP3:Hid (p<=k3):=by have:=HP.out;have:=HK2.out;show _<=_;omega
     clear h93 hk3;go_wp2_with fail;refine(aQ 93 a s k2 n c2 w5 hs S5.out.dr H93).mono ?_;rintro e w6 ⟨rfl,hd,hg⟩;have S6:=ae (S5.out.step hg hd);clear hd hg;go_wp2_with fail;refine(HB3.out w6 S6.out.dr).mono ?_;rintro e w7 ⟨rfl,hd,hg⟩;have S7:=ae (S6.out.step hg hd);clear hd hg;go_wp2;go_ret2;exact fH.yes EN.out S7.out HP3.out HC2.out
    | false=>
     have H93:=ae h93;cases h32:aA 32 r with
     | true=>
      have EN:Hid (RR=eL (f-1+1) ((xs++[Y]).map bl) ((bl s).drop k2)):=by
       have hf:=HF.out;have hk':=HK2.out;show _=_;rw[HE.out,pW A1.out (by rw[SK.out];exact h93) h32,SK.out,List.map_append,List.map_cons,List.map_nil,HY.out,show f-1+1=f by omega]
      have HF2:Hid (s.size-k2<=f-1):=by have:=HF.out;have:=HK2.out;show _<=_;omega
      have HP2:Hid (p<=k2):=by have:=HP.out;have:=HK2.out;show _<=_;omega
      have hmk2:m+1<=k2:=by have:=HK2.out;omega
      clear h93 h32;go_wp2_with fail;refine(aG 93 a s k2 n c2 w5 hs S5.out.dr H93).mono ?_;rintro e w6 ⟨rfl,hd,hg⟩;have S6:=ae (S5.out.step hg hd);clear hd hg;go_wp2;go_roundw
      case rel=>exact⟨k2,m+1,c4,f-1,c2,xs++[Y],A4,rfl,rfl,rfl,hk2s,hmk2,S6,HP2,EN,HF2,HC2⟩
      case measure=>rw[S6.out.dr.at_,MA.out];have:=HK2.out;omega
     | false=>
      have EN:Hid (RR=none):=by show _=_;rw[HE.out];exact rS A1.out (by rw[SK.out];exact h93) h32
      clear h93 h32;go_wp2_with fail;refine(aG 93 a s k2 n c2 w5 hs S5.out.dr H93).mono ?_;rintro e w6 ⟨rfl,hd,hg⟩;have S6:=ae (S5.out.step hg hd);clear hd hg;go_wp2;go_ret2;exact fH.no EN.out S6.out.gr S6.out.dr
theorem QS (h:mR pT l=none):ib l=none:=by unfold ib;rw[h]
theorem QT (h:mR pT l=some (nm,r))(h1:lH r=none):ib l=none:=by unfold ib;rw[h];simp only[h1]
theorem QU (h:mR pT l=some (nm,r))(h1:lH r=some (q,r1))(h2:kK (aO r1)=none):ib l=none:=by unfold ib;rw[h];simp only[h1,h2]
theorem QV (h:mR pT l=some (nm,r))(h1:lH r=some (q,r1))(h2:kK (aO r1)=some (op,v,r2))(h3:jr r2=none):ib l=none:=by unfold ib;rw[h];simp only[h1,h2,h3]
theorem QW {r3:LU}{ar:List (LU)}(h:mR pT l=some (nm,r))(h1:lH r=some (q,r1))(h2:kK (aO r1)=some (op,v,r2))(h3:jr r2=some (ar,r3)):ib l=some (⟨nm,q,op,v,ar⟩,r3):=by unfold ib;rw[h];simp only[h1,h2,h3]
theorem Mc (h:aA 58 r=false):lH r=some ([],r):=by unfold lH;rw[h];rfl
theorem yp (h:aA 58 r=true):lH r=mR jC (r.drop 1):=by unfold lH;rw[h];rfl
theorem Md (h:aA 40 r=false):kK r=some (0,[],r):=by unfold kK;rw[h];rfl
theorem Jf (h:aA 40 r=true):kK r=wX (r.drop 1):=by unfold kK;rw[h];rfl
theorem Jg (h:aA 91 r=false):jr r=some ([],r):=by unfold jr;rw[h];rfl
theorem EU (h:aA 91 r=true):jr r=fF (r.length+1) (aO (r.drop 1)):=by unfold jr;rw[h];rfl
structure sP (w wr:World) (a:Nat) (s:BA) (k n:Nat) (c:Int) (vs:LV):Prop where
 tb:ax wr w.heap.size vs
 dr:DR wr a s k n c
 gr:w.grownBy wr (some a)
 lt:a<w.heap.size
theorem sP.step {n':Nat}(h:sP w wr a s k n c vs)(hg:wr.grownBy w' (some a))(hd:DR w' a s k' n' c'):sP w w' a s k' n' c' vs:=
 ⟨h.tb.grownBy hg (by intro e;injection e with e;have:=h.lt;omega),hd,ak h.gr hg,h.lt⟩
theorem sP.set (h:sP w wr a s k n c vs)(j:Nat)(hj:j<vs.length)(v:Value):sP w (wr.setCell ⟨w.heap.size,j,none⟩ v) a s k n c (vs.set j v):=
 ⟨h.tb.set j hj v,h.dr.far (by have:=h.lt;omega) v,ap h.gr (.inr lr) v,h.lt⟩
theorem sP.start (h:DR w a s k n c)(vs:LV)(t:TypeId):sP w (w.alloc (.cells vs.toArray t)) a s k n c vs:=
 ⟨ax.new w vs t,h.alloc _,World.grownBy_alloc w _ _,h.sz⟩
def km (r:Option (ee×LU))(a:Nat)(s:BA)(p n:Nat)(c:Int)(w:World)(e:Ending)(w':World):Prop:=
 w.grownBy w' (some a)/\match r with
  | none=>∃ (T:cU) (p' n':Nat) (c':Int),e=.returned (.tuple #[T.val,.bool false])/\DR w' a s p' n' c'
  | some (t,r)=>∃ (T:cU) (p':Nat) (c':Int),e=.returned (.tuple #[T.val,.bool true])/\T.pl=t/\T.own w' w.heap.size/\DR w' a s p' (n+1) c'/\p<p'/\(bl s).drop p'=r/\(c'=0↔c=0/\t.right=true/\n+1<=64)
theorem sP.same {v0 v1 v2 v3 v4:Value}(h:sP w wr a s k n c [v0,v1,v2,v3,v4]):sP w (((((wr.setCell ⟨w.heap.size,0,none⟩ v0).setCell ⟨w.heap.size,1,none⟩ v1).setCell ⟨w.heap.size,2,none⟩ v2).setCell ⟨w.heap.size,3,none⟩ v3).setCell ⟨w.heap.size,4,none⟩ v4) a s k n c [v0,v1,v2,v3,v4]:=
 ((((h.set 0 (by simp) v0).set 1 (by simp) v1).set 2 (by simp) v2).set 3 (by simp) v3).set 4 (by simp) v4
theorem qV (ch:UInt8)(a:Nat)(s:BA)(p n:Nat)(c:Int)(w:World)(hs:s.size<=4294967280)(h:DR w a s p n c)(b:Bool)(hb:Hid (aA ch ((bl s).drop p)=b)):Calls Tryz.prog 205 #[.pointer (some ⟨a,0,none⟩),.int .u8 ch.toNat] w fun e w'=>e=.returned (.bool b)/\DR w' a s (if b then p+1 else p) n c/\w.grownBy w' (some a):=by
 cases b with
 | true=>exact aQ ch a s p n c w hs h hb
 | false=>exact aG ch a s p n c w hs h hb
theorem Me (t:ee):t.right=true↔fg t.name=true/\(t.qual=[]\/dI t.qual=true)/\(t.archs.all fun a=>dI (cE a))=true/\(t.op=0\/dm 1 (bU t.ver)=0):=by
 unfold ee.right;simp[and_assoc]
end
end Go.Proofs.YtlglfpbhapmhiaaGreatDoor
