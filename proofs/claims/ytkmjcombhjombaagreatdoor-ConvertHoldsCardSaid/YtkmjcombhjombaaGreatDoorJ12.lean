/- A part of the proof. -/
import Derived.Test.YtkmjcombhjombaaGreatDoorJ09
import Derived.Test.YtkmjcombhjombaaGreatDoorJ11
set_option maxRecDepth 100000
set_option maxHeartbeats 20000000
set_option linter.unusedVariables false
set_option linter.unusedSimpArgs false
namespace Go.Proofs.YtkmjcombhjombaaGreatDoor
variable{s:BA}{b c c':Int}{l r x:LU}{xs:List BA}{B a c1 cc g i k k' kb m mb n n' p p' sz:Nat}{T:Nat->Prop}{A A1:OA}{bad:Option Nat}{e:TypeId}{v v1 v2:Value}{w w' w2 wr:World}
open Go.Proofs.Tryz
section
open Go.RowKit Go.Deep
theorem oJ {w1:World}{row:Option Nat}(h:w.grownBy wr (some a))(k:wr.grownBy w1 row)(F:∀ j,row=some j->w.heap.size<=j):w.grownBy w1 (some a):=
 ⟨k.os.trans h.os,k.tape.trans h.tape,k.output.trans h.output,Nat.le_trans h.size k.size,fun j D z=>(k.block j (Nat.lt_of_lt_of_le D h.size) (fun e=>by have:=F j e.symm;omega)).trans (h.block j D z)⟩
structure Ux (w wr:World) (a:Nat) (s:BA) (k n:Nat) (c:Int) (xs:List BA) (A:OA) (m cc:Nat):Prop where
 len:xs.length=m
 row:wr.ownsRow w.heap.size 9 1 (.slice A m cc) m (strCells xs)
 dr:DR wr a s k n c
 gr:w.grownBy wr (some a)
 lt:a<w.heap.size
theorem Ux.step (h:Ux w wr a s k n c xs A m cc)(z:wr.grownBy w' (some a))(D:DR w' a s k' n c'):Ux w w' a s k' n c' xs A m cc:=
 ⟨h.len,gZ h.row h.lt z,D,fN h.gr z,h.lt⟩
theorem Ux.alloc (h:Ux w wr a s k n c xs A m cc)(o:Obj):Ux w (wr.alloc o) a s k n c xs A m cc:=
 ⟨h.len,h.row.alloc o,h.dr.alloc o,ny h.gr o,h.lt⟩
theorem Ux.grow {o:Obj}{x:BA}(h:Ux w wr a s k n c xs A m cc)
  (H:w2.ownsRow w.heap.size 9 1 (.slice A1 (m+1) c1) (m+1) (strCells xs++[.string x]))
  (D:(wr.alloc o).grownBy w2 (Value.slice A m cc).ownBlock):Ux w w2 a s k n c (xs++[x]) A1 (m+1) c1:=by
 have z:=h.alloc o;refine⟨by simp[h.len],by rw[show strCells (xs++[x])=strCells xs++[.string x] by simp[strCells]];exact H,z.dr.kept D ?_,oJ z.gr D (fun j F=>(h.row.lt j F).1),h.lt⟩;intro e;have:=(h.row.lt a e.symm).1;have:=h.lt;omega
def mD (r:Option (List (LU)×LU))(a:Nat)(s:BA)(p n:Nat)(c:Int)(w:World)(e:Ending)(w':World):Prop:=
 match r with
  | none=>w.grownBy w' (some a)/\e=.returned (.tuple #[.slice none 0 0,.bool false])/\∃ p' c',DR w' a s p' n c'
  | some (L,r)=>∃ (A:OA) (m cc:Nat) (xs:List BA) (p':Nat) (c':Int),e=.returned (.tuple #[.slice A m cc,.bool true])/\Ux w w' a s p' n c' xs A m cc/\xs.map bl=L/\p<=p'/\(bl s).drop p'=r/\(c'=0↔c=0/\L.all (fun x=>kH (ji x))=true)
theorem mD.no {r:Option (List (LU)×LU)}(D:r=none)(z:w.grownBy w' (some a))(h:DR w' a s p' n c'):mD r a s p n c w (.returned (.tuple #[.slice none 0 0,.bool false])) w':=by
 subst D;exact⟨z,rfl,_,_,h⟩
theorem mD.yes {r:Option (List (LU)×LU)}(F:r=some (xs.map bl,(bl s).drop p'))(h:Ux w w' a s p' n c' xs A m cc)(z:p<=p')(D:c'=0↔c=0/\(xs.map bl).all (fun x=>kH (ji x))=true):mD r a s p n c w (.returned (.tuple #[.slice A m cc,.bool true])) w':=by
 subst F;exact⟨A,m,cc,xs,p',c',rfl,h,rfl,z,rfl,D⟩
theorem Iy {b:Bool}(D:fY 33 ((bl s).drop k)=b)(z:m=if b then k+1 else k)(ht:tt pH ((bl s).drop m)=none):px ((bl s).drop k)=none:=by
 unfold px ji;rw[D];cases b<;>simp at z<;>subst z<;>simp[List.drop_drop,ht]
theorem Iz {b:Bool}(D:fY 33 ((bl s).drop k)=b)(z:m=if b then k+1 else k)(ht:tt pH ((bl s).drop m)=some (x,r)):px ((bl s).drop k)=some ((if b then [33] else [])++x,r):=by
 unfold px ji Iq;rw[D];cases b<;>simp at z<;>subst z<;>simp[List.drop_drop,ht]
theorem IC (h:px l=some (x,r)){b:Bool}{y:LU}(I:x=(if b then [33] else [])++y)(F:fY 33 l=b):ji x=y:=by
 obtain⟨z,J,D,H⟩:=Ay h;rw[H];unfold Iq at D;rw[F] at D;rw[I] at D;cases b<;>simpa using D.symm
theorem PY (F:Nat)(a:Nat)(s:BA)(p n:Nat)(c:Int)(w:World)(O:s.size<=4294967280)(hF:s.size-p<F)(h:DR w a s p n c):Calls prog 248 #[.pointer (some ⟨a,0,none⟩)] w (mD (mB F (gm ((bl s).drop p))) a s p n c w):=by
 obtain⟨i0,ao,am,aq,an⟩:=info_parts tJ;obtain⟨q,hq⟩:∃ q,p+fS gT ((bl s).drop p)=q:=⟨_,rfl⟩
 have hB:=gy a s p n c w O h;rw[hq] at hB;have au:=h.sz;have HQ:Hid (p<=q):=by show _<=_;omega
 obtain⟨f0,aA⟩:∃ f0,F=f0+1:=⟨F-1,by omega⟩
 have E0:Hid (mB F (gm ((bl s).drop p))=lL (f0+1) [] ((bl s).drop q)):=by show _=_;rw[jh,hq,GN,aA]
 have av:Hid (s.size-q<=f0):=by have:=HQ.out;show _<=_;omega
 generalize mB F (gm ((bl s).drop p))=RR at E0;go_in;go_wp2_with fail;refine hB.mono ?_;rintro e w1 ⟨rfl,D,H⟩;have S1:Hid (Ux w w1 a s q n c [] none 0 0):=⟨rfl,World.ownsRow_nil _ _ _ _,D,H,au⟩
 have ax:=D.le;go_wp2;go_loopw [2,3,4] (fun s2 s3 l wr=>∃ (k m cc f:Nat) (c':Int) (Z:List BA) (A:OA),s2=.slice none 0 0/\s3=.bool false/\l=.slice A m cc/\k<=s.size/\m<=k/\Hid (Ux w wr a s k n c' Z A m cc)/\Hid (p<=k)/\Hid (RR=lL (f+1) (Z.map bl) ((bl s).drop k))/\Hid (s.size-k<=f)/\Hid (c'=0↔c=0/\(Z.map bl).all (fun x=>kH (ji x))=true)) (fun _ _ _ wr=>s.size-Kg a wr)
 case atStart=>exact⟨q,0,0,f0,c,[],none,rfl,rfl,rfl,ax,z0,S1,HQ,E0,av,by simp[Hid]⟩
 case round=>
  obtain⟨k,m,cc,f,c',Z,A,rfl,rfl,rfl,hk,aB,HS,HP,HE,HF,HC⟩:=hrel;have MA:=fH HS.dr.at_;cases hm:fY 33 ((bl s).drop k) with
  | true=>
   have HM:=fH hm;go_wp2_with fail;refine(gK 33 a s k n c' wr O HS.dr HM).mono ?_;rintro e w2 ⟨rfl,D,H⟩;have V:=fH (HS.step H D);have ay:=V.dr.le;cases ht:tt pH ((bl s).drop (k+1)) with
   | none=>
    have HT:=fH ht;have R:Hid (RR=none):=by show _=_;rw[HE.out];exact xz (Iy HM rfl ht)
    go_wp2_with fail;refine(py a s (k+1) n c' w2 O V.dr HT).mono ?_;rintro e w3 ⟨rfl,D,H⟩;have X:=fH (V.step H D);go_wp2;go_ret2;exact mD.no R X.gr X.dr
   | some xr=>
    obtain⟨x,r⟩:=xr;have HT:=fH ht;obtain⟨t1,t2,t3,t4⟩:=lu V.dr.le ht;have A1:=fH (Iz HM rfl ht);have AB:=fH (IC A1 rfl HM.out);obtain⟨z,aa⟩:∃ z,(k+1)+x.length+fS gT ((bl s).drop ((k+1)+x.length))=z:=⟨_,rfl⟩
    have SK:Hid (gm r=(bl s).drop z):=by show _=_;rw[<-t2,jh,aa]
    have ac:Hid (fY 32 ((bl s).drop ((k+1)+x.length))=fY 32 r):=by show _=_;rw[t2]
    have I:Hid (k<z):=by show _<_;omega
    have ap:(gX x).size<=4294967280:=by rw[iB];omega
    have az:m<=4294967280:=by omega
    have ae:=fH (fun (d:Int) (W:World) (hD:DR W a s ((k+1)+x.length) n d)=>gy a s ((k+1)+x.length) n d W O hD);rw[aa,ac.out] at ae;obtain⟨Y,hY⟩:∃ Y,(⟨#[33]⟩++gX x)=Y:=⟨_,rfl⟩
    have HY:Hid (bl Y=(if true then [33] else [])++x):=by show _=_;rw[<-hY];simp[iO,iS];rfl
    go_wp2_with fail;refine(pB x r a s (k+1) n c' w2 O V.dr HT).mono ?_;rintro e w3 ⟨rfl,⟨K,D,ak⟩,H⟩;have X:=fH (V.step H D);have ad:Hid (K=0↔c=0/\((Z++[Y]).map bl).all (fun x=>kH (ji x))=true):=by
     have h1:=HC.out;have h2:=HY.out;have h3:=AB.out;show _↔_;rw[ak,h1,List.map_append,List.all_append];simp only[List.map_cons,List.map_nil,List.all_cons,List.all_nil,Bool.and_true,Bool.and_eq_true];rw[h2,h3];exact and_assoc
    go_wp2_with (at_builtin;refine fR _ rfl _ _ _ rfl w.heap.size 9 i0 _ 1 16 underlying33 ao am aq an rfl (by omega) (.slice A m cc) m _ rfl (X.row.alloc _) (w3.heap.size+1) (some ⟨w3.heap.size,0,none⟩) 1 1 [.string Y] rfl (me w3 _ _) (by simp[Value.oneCell']) (by simp only[maxLen];omega) (by omega) (by simp;have:=X.gr.size;omega) ?_;intro v1 w4 o1 g1 a1);obtain⟨A4,c4,rfl⟩:=gg o1;have S4:=fH (X.grow (x:=Y) o1 g1);go_wp2_with fail;refine(ae K w4 S4.dr).mono ?_;rintro e w5 ⟨rfl,D,H⟩;have U:=fH (S4.step H D);have ah:=U.dr.le;cases h93:fY 93 ((bl s).drop z) with
    | true=>
     have J:=fH h93;obtain⟨k3,ag⟩:∃ k3,z+1+fS gT ((bl s).drop (z+1))=k3:=⟨_,rfl⟩
     have R:Hid (RR=some ((Z++[Y]).map bl,(bl s).drop k3)):=by
      show _=_;rw[HE.out,Aw A1.out (by rw[SK.out];exact h93),SK.out,List.drop_drop,jh,ag,List.map_append,List.map_cons,List.map_nil,HY.out]
     have af:=fH (fun (W:World) (hD:DR W a s (z+1) n K)=>gy a s (z+1) n K W O hD);rw[ag] at af;have aj:Hid (p<=k3):=by have:=HP.out;have:=I.out;show _<=_;omega
     go_wp2_with fail;refine(gK 93 a s z n K w5 O U.dr J).mono ?_;rintro e w6 ⟨rfl,D,H⟩;have M:=fH (U.step H D);go_wp2_with fail;refine(af w6 M.dr).mono ?_;rintro e w7 ⟨rfl,D,H⟩;have S7:=fH (M.step H D);go_wp2;go_ret2;exact mD.yes R S7 aj ad.out
    | false=>
     have J:=fH h93;cases h32:fY 32 r with
     | true=>
      have R:Hid (RR=lL (f-1+1) ((Z++[Y]).map bl) ((bl s).drop z)):=by
       have hf:=HF.out;have ar:=I.out;show _=_;rw[HE.out,xC A1.out (by rw[SK.out];exact h93) h32,SK.out,List.map_append,List.map_cons,List.map_nil,HY.out,show f-1+1=f by omega]
      have al:Hid (s.size-z<=f-1):=by have:=HF.out;have:=I.out;show _<=_;omega
      have ai:Hid (p<=z):=by have:=HP.out;have:=I.out;show _<=_;omega
      have ab:m+1<=z:=by have:=I.out;omega
      go_wp2_with fail;refine(gt 93 a s z n K w5 O U.dr J).mono ?_;rintro e w6 ⟨rfl,D,H⟩;have M:=fH (U.step H D);go_wp2;go_roundw
      case rel=>exact⟨z,m+1,c4,f-1,K,Z++[Y],A4,rfl,rfl,rfl,ah,ab,M,ai,R,al,ad⟩
      case measure=>rw[M.out.dr.at_,MA.out];have:=I.out;omega
     | false=>
      have R:Hid (RR=none):=by show _=_;rw[HE.out];exact Ax A1 (by rw[SK.out];exact h93) h32
      go_wp2_with fail;refine(gt 93 a s z n K w5 O U.dr J).mono ?_;rintro e w6 ⟨rfl,D,H⟩;have M:=fH (U.step H D);go_wp2;go_ret2;exact mD.no R M.gr M.dr
  | false=>
   have HM:=fH hm;go_wp2_with fail;refine(gt 33 a s k n c' wr O HS.dr HM).mono ?_;rintro e w2 ⟨rfl,D,H⟩;have V:=fH (HS.step H D);have ay:=V.dr.le;cases ht:tt pH ((bl s).drop k) with
   | none=>
    have HT:=fH ht;have R:Hid (RR=none):=by show _=_;rw[HE.out];exact xz (Iy HM rfl ht)
    go_wp2_with fail;refine(py a s k n c' w2 O V.dr HT).mono ?_;rintro e w3 ⟨rfl,D,H⟩;have X:=fH (V.step H D);go_wp2;go_ret2;exact mD.no R X.gr X.dr
   | some xr=>
    obtain⟨x,r⟩:=xr;have HT:=fH ht;obtain⟨t1,t2,t3,t4⟩:=lu V.dr.le ht;have A1:=fH (Iz HM rfl ht);have AB:=fH (IC A1 rfl HM.out);obtain⟨z,aa⟩:∃ z,k+x.length+fS gT ((bl s).drop (k+x.length))=z:=⟨_,rfl⟩
    have SK:Hid (gm r=(bl s).drop z):=by show _=_;rw[<-t2,jh,aa]
    have ac:Hid (fY 32 ((bl s).drop (k+x.length))=fY 32 r):=by show _=_;rw[t2]
    have I:Hid (k<z):=by show _<_;omega
    have ap:(gX x).size<=4294967280:=by rw[iB];omega
    have az:m<=4294967280:=by omega
    have ae:=fH (fun (d:Int) (W:World) (hD:DR W a s (k+x.length) n d)=>gy a s (k+x.length) n d W O hD);rw[aa,ac.out] at ae;obtain⟨Y,hY⟩:∃ Y,(gX x)=Y:=⟨_,rfl⟩
    have HY:Hid (bl Y=(if false then [33] else [])++x):=by show _=_;rw[<-hY];simp[iO,iS]
    have aC:Y.size<=4294967280:=by rw[<-hY];exact ap
    go_wp2_with fail;refine(pB x r a s k n c' w2 O V.dr HT).mono ?_;rintro e w3 ⟨rfl,⟨K,D,ak⟩,H⟩;have X:=fH (V.step H D);have ad:Hid (K=0↔c=0/\((Z++[Y]).map bl).all (fun x=>kH (ji x))=true):=by
     have h1:=HC.out;have h2:=HY.out;have h3:=AB.out;show _↔_;rw[ak,h1,List.map_append,List.all_append];simp only[List.map_cons,List.map_nil,List.all_cons,List.all_nil,Bool.and_true,Bool.and_eq_true];rw[h2,h3];exact and_assoc
    go_wp2_with (at_builtin;refine fR _ rfl _ _ _ rfl w.heap.size 9 i0 _ 1 16 underlying33 ao am aq an rfl (by omega) (.slice A m cc) m _ rfl (X.row.alloc _) (w3.heap.size+1) (some ⟨w3.heap.size,0,none⟩) 1 1 [.string Y] rfl (me w3 _ _) (by simp[Value.oneCell']) (by simp only[maxLen];omega) (by omega) (by simp;have:=X.gr.size;omega) ?_;intro v1 w4 o1 g1 a1);obtain⟨A4,c4,rfl⟩:=gg o1;have S4:=fH (X.grow (x:=Y) o1 g1);go_wp2_with fail;refine(ae K w4 S4.dr).mono ?_;rintro e w5 ⟨rfl,D,H⟩;have U:=fH (S4.step H D);have ah:=U.dr.le;cases h93:fY 93 ((bl s).drop z) with
    | true=>
     have J:=fH h93;obtain⟨k3,ag⟩:∃ k3,z+1+fS gT ((bl s).drop (z+1))=k3:=⟨_,rfl⟩
     have R:Hid (RR=some ((Z++[Y]).map bl,(bl s).drop k3)):=by
      show _=_;rw[HE.out,Aw A1.out (by rw[SK.out];exact h93),SK.out,List.drop_drop,jh,ag,List.map_append,List.map_cons,List.map_nil,HY.out]
     have af:=fH (fun (W:World) (hD:DR W a s (z+1) n K)=>gy a s (z+1) n K W O hD);rw[ag] at af;have aj:Hid (p<=k3):=by have:=HP.out;have:=I.out;show _<=_;omega
     go_wp2_with fail;refine(gK 93 a s z n K w5 O U.dr J).mono ?_;rintro e w6 ⟨rfl,D,H⟩;have M:=fH (U.step H D);go_wp2_with fail;refine(af w6 M.dr).mono ?_;rintro e w7 ⟨rfl,D,H⟩;have S7:=fH (M.step H D);go_wp2;go_ret2;exact mD.yes R S7 aj ad.out
    | false=>
     have J:=fH h93;cases h32:fY 32 r with
     | true=>
      have R:Hid (RR=lL (f-1+1) ((Z++[Y]).map bl) ((bl s).drop z)):=by
       have hf:=HF.out;have ar:=I.out;show _=_;rw[HE.out,xC A1.out (by rw[SK.out];exact h93) h32,SK.out,List.map_append,List.map_cons,List.map_nil,HY.out,show f-1+1=f by omega]
      have al:Hid (s.size-z<=f-1):=by have:=HF.out;have:=I.out;show _<=_;omega
      have ai:Hid (p<=z):=by have:=HP.out;have:=I.out;show _<=_;omega
      have ab:m+1<=z:=by have:=I.out;omega
      go_wp2_with fail;refine(gt 93 a s z n K w5 O U.dr J).mono ?_;rintro e w6 ⟨rfl,D,H⟩;have M:=fH (U.step H D);go_wp2;go_roundw
      case rel=>exact⟨z,m+1,c4,f-1,K,Z++[Y],A4,rfl,rfl,rfl,ah,ab,M,ai,R,al,ad⟩
      case measure=>rw[M.out.dr.at_,MA.out];have:=I.out;omega
     | false=>
      have R:Hid (RR=none):=by show _=_;rw[HE.out];exact Ax A1 (by rw[SK.out];exact h93) h32
      go_wp2_with fail;refine(gt 93 a s z n K w5 O U.dr J).mono ?_;rintro e w6 ⟨rfl,D,H⟩;have M:=fH (U.step H D);go_wp2;go_ret2;exact mD.no R M.gr M.dr
structure TB (w:World) (b:Nat) (v0 v1 v2 v3 v4:Value):Prop where
 c0:w.cell? ⟨b,0,none⟩=some v0
 c1:w.cell? ⟨b,1,none⟩=some v1
 c2:w.cell? ⟨b,2,none⟩=some v2
 c3:w.cell? ⟨b,3,none⟩=some v3
 c4:w.cell? ⟨b,4,none⟩=some v4
 f0:w.frozen? ⟨b,0,none⟩=false
 f1:w.frozen? ⟨b,1,none⟩=false
 f2:w.frozen? ⟨b,2,none⟩=false
 f3:w.frozen? ⟨b,3,none⟩=false
 f4:w.frozen? ⟨b,4,none⟩=false
theorem fV.five {b:Nat}{v0 v3 v4:Value}(h:fV w b [v0,v1,v2,v3,v4]):TB w b v0 v1 v2 v3 v4:=
 ⟨h.cell 0 _ rfl,h.cell 1 _ rfl,h.cell 2 _ rfl,h.cell 3 _ rfl,h.cell 4 _ rfl,h.free 0 (by simp),h.free 1 (by simp),h.free 2 (by simp),h.free 3 (by simp),h.free 4 (by simp)⟩
theorem XC {v:LU}{op:Nat}(h:Dc l=some (op,v,r)):op≠0:=by
 unfold Dc jn at h;split at h
 ·cases h
 ·rename_i z;split at h
  ·cases h
  ·unfold re at h;split at h
   ·injection h with h;injection h with h;subst h;exact z
   ·cases h
theorem qx.no {r:Option (iU×LU)}{T:iK}{e:Ending}(F:r=none)(z:w.grownBy w' (some a))(h:DR w' a s p' n' c')(D:e=.returned (.tuple #[T.val,.bool false])):qx r a s p n c w e w':=by
 subst F;exact⟨z,T,p',n',c',D,h⟩
theorem UA (a:Nat)(s:BA)(p n:Nat)(c:Int)(w:World)(hs:s.size<=4294967280)(hG:yY a w)(h:DR w a s p n c):Calls prog 198 #[.pointer (some ⟨a,0,none⟩)] w (qx (mX ((bl s).drop p)) a s p n c w):=by
 have HG:=fH hG;obtain⟨f,y,k⟩:=(h.alloc (.cells #[.string ⟨#[]⟩,.int .i64 0,.string ⟨#[]⟩,.string ⟨#[]⟩,.slice none 0 0] 196)).cells;have c1:=k.c1;have T0:Hid (BC w (w.alloc (.cells #[.string ⟨#[]⟩,.int .i64 0,.string ⟨#[]⟩,.string ⟨#[]⟩,.slice none 0 0] 196)) a s p n c [.string ⟨#[]⟩,.int .i64 0,.string ⟨#[]⟩,.string ⟨#[]⟩,.slice none 0 0]):=BC.start h _ _;have aC:=h.nle;have ar:=h.le;generalize aj:mX ((bl s).drop p)=RR;cases ht:tt vC ((bl s).drop p) with
 | none=>
  have EN:Hid (RR=none):=by show _=_;rw[<-aj];exact acf ht
  have HT:=fH ht;go_in;go_wp2_with fail;refine(jX Mp a s p n c _ hs T0.dr HT).mono ?_;rintro e w1 ⟨rfl,F,H⟩;have T1:=fH (T0.step H F);obtain⟨R,z1,z2,Z,X,y0,y1,y2,y3,y4⟩:=T1.tb.five;go_wp2_with fail;refine bodyPost_ret (v:=.tuple #[.agg #[.string ⟨#[]⟩,.int .i64 0,.string ⟨#[]⟩,.string ⟨#[]⟩,.slice none 0 0],.bool false]) (by simp(maxDischargeDepth:=6) [results,results198,go_sem,R,z1,z2,Z,X]) rfl ?_;have U:=BC.same (T1.set 0 (by simp) (.string ⟨#[]⟩));exact qx.no (T:=⟨⟨#[]⟩,0,⟨#[]⟩,⟨#[]⟩,none,0,[]⟩) EN U.gr U.dr rfl
 | some x=>
 obtain⟨nm,r⟩:=x;have aa:=fH ht;obtain⟨t1,t2,t3,t4⟩:=lu ar ht;obtain⟨I,ay⟩:∃ I,p+nm.length=I:=⟨_,rfl⟩
 have hU:=jA Mp nm r a s p n c _ hs T0.dr aa;rw[ay] at hU t2 t4;have PP:Hid (p<I):=by show _<_;omega
 have Y:Hid ((bl s).drop I=r):=t2;have an:n<I:=by omega
 have aH:(gX nm).size<=4294967280:=by rw[iB];omega
 have HR:=fH aj;go_in;go_wp2_with fail;refine hU.mono ?_;rintro e w1 ⟨rfl,F,H⟩;have T1:=fH (T0.step H F);obtain⟨R,z1,z2,Z,X,y0,y1,y2,y3,y4⟩:=T1.tb.five;have T2:Hid (BC w (w1.setCell ⟨w.heap.size,0,none⟩ (.string (gX nm))) a s I n c [.string (gX nm),.int .i64 0,.string ⟨#[]⟩,.string ⟨#[]⟩,.slice none 0 0]):=T1.set 0 (by simp) (.string (gX nm));obtain⟨f2,aG,k2⟩:=T2.dr.cells;have c2:=k2.c2;have aA:=k2.f2;have T3:Hid (BC w ((w1.setCell ⟨w.heap.size,0,none⟩ (.string (gX nm))).setCell ⟨a,2,none⟩ (.int .i64 ((n:Int)+1))) a s I (n+1) c [.string (gX nm),.int .i64 0,.string ⟨#[]⟩,.string ⟨#[]⟩,.slice none 0 0]):=T2.step (gU _) (T2.dr.count an);obtain⟨f3,az,k3⟩:=T3.dr.cells;have d2:=k3.c2;go_upto_if 30 with(fail)
 go_cut [] (fun wx=>∃ c1:Int,Hid (BC w wx a s I (n+1) c1 [.string (gX nm),.int .i64 0,.string ⟨#[]⟩,.string ⟨#[]⟩,.slice none 0 0])/\Hid (c1=0↔c=0/\n+1<=64))
 case first=>
  by_cases aB:64<n+1
  ·have au:decide ((64:Int)<(n:Int)+1)=true:=dT (by omega);have NC:Hid (rg c 4=0↔c=0/\n+1<=64):=by show _↔_;rw[mC];constructor<;>intro h<;>omega
   go_wp2_with fail;refine(nG _ 4 a s I (n+1) c _ T3.dr).mono ?_;rintro e w3 ⟨rfl,F,H⟩;have T4:=fH (T3.step H F);go_wp2;go_meet;exact⟨_,T4,NC⟩
  ·have au:decide ((64:Int)<(n:Int)+1)=false:=dF (by omega);have NC:Hid (c=0↔c=0/\n+1<=64):=by show _↔_;constructor<;>intro h<;>omega
   go_wp2;go_meet;exact⟨_,T3,NC⟩
 case rest=>
 obtain⟨c1,T4,C1⟩:=hcut;have R:=T4.tb.five.c0;have hN:=nC (gX nm) wc (by omega);rw[iS] at hN;obtain⟨bn,am⟩:∃ bn,hH nm=bn:=⟨_,rfl⟩
 rw[am] at hN;have ak:=fH am;go_wp2_with fail;refine hN.mono ?_;rintro e w' ⟨rfl,rfl⟩;go_upto_if 38 with(fail)
 go_cut [] (fun wx=>∃ c2:Int,Hid (BC w wx a s I (n+1) c2 [.string (gX nm),.int .i64 0,.string ⟨#[]⟩,.string ⟨#[]⟩,.slice none 0 0])/\Hid (c2=0↔c1=0/\hH nm=true))
 case first=>
  cases bn with
  | true=>
   go_wp2;go_meet;exact⟨c1,T4,by simp[Hid,ak.out]⟩
  | false=>
   have NC:Hid (rg c1 10=0↔c1=0/\hH nm=true):=by show _↔_;rw[mC,ak.out];simp
   go_wp2_with fail;refine(nG _ 10 a s I (n+1) c1 _ T4.dr).mono ?_;rintro e w3 ⟨rfl,F,H⟩;have T5:=fH (T4.step H F);go_wp2;go_meet;exact⟨_,T5,NC⟩
 case rest=>
 obtain⟨c2,T5,C2⟩:=hcut;obtain⟨b,hb⟩:∃ b,fY 58 ((bl s).drop I)=b:=⟨_,rfl⟩
 have HB:=fH hb;go_wp2_with fail;refine(yZ 58 a s I (n+1) c2 _ hs T5.dr b HB).mono ?_;rintro e w5 ⟨rfl,F,H⟩;have T6:=fH (T5.step H F);go_upto_if 43 with(fail)
 go_cut [3] (fun v wx=>∃ (Q:BA) (p3:Nat) (c3:Int),v=.bool true/\Hid (BC w wx a s p3 (n+1) c3 [.string (gX nm),.int .i64 0,.string ⟨#[]⟩,.string Q,.slice none 0 0])/\Hid (pj r=some (bl Q,(bl s).drop p3))/\Hid (I<=p3)/\Hid (c3=0↔c2=0/\(bl Q=[]\/kH (bl Q)=true)))
 case first=>
  cases b with
  | false=>
   have EQ:Hid (pj r=some (bl ⟨#[]⟩,(bl s).drop I)):=by show _=_;rw[Y.out];exact Xy (by rw[<-Y.out];exact HB.out)
   go_wp2;go_meet;exact⟨⟨#[]⟩,I,c2,rfl,T6,EQ,lr,by simp[Hid];intro _;left;rfl⟩
  | true=>
   cases ht:tt pH ((bl s).drop (I+1)) with
   | none=>
    have HT:=fH ht;have EN:Hid (RR=none):=by show _=_;rw[<-HR.out];exact acg aa (by rw[ID (by rw[<-Y.out];exact HB.out),<-Y.out,List.drop_drop];exact ht)
    go_wp2_with fail;refine(py a s (I+1) (n+1) c2 _ hs T6.dr HT).mono ?_;rintro e w6 ⟨rfl,F,H⟩;have T7:=fH (T6.step H F);obtain⟨R,z1,z2,Z,X,y0,y1,y2,y3,y4⟩:=T7.tb.five;go_wp2_with fail;refine bodyPost_ret (v:=.tuple #[.agg #[.string (gX nm),.int .i64 0,.string ⟨#[]⟩,.string ⟨#[]⟩,.slice none 0 0],.bool false]) (by simp(maxDischargeDepth:=6) [results,results198,go_sem,R,z1,z2,Z,X]) rfl ?_;have U:=BC.same (T7.set 3 (by simp) (.string ⟨#[]⟩));exact qx.no (T:=⟨gX nm,0,⟨#[]⟩,⟨#[]⟩,none,0,[]⟩) EN U.gr U.dr rfl
   | some x=>
    obtain⟨q,r1⟩:=x;have HT:=fH ht;have av:=T6.dr.le;obtain⟨t1,t2,t3,t4⟩:=lu (p:=I+1) av ht;have EQ:Hid (pj r=some (bl (gX q),(bl s).drop (I+1+q.length))):=by show _=_;rw[ID (by rw[<-Y.out];exact HB.out),<-Y.out,List.drop_drop,iS,t2];exact ht
    have Q0:Hid (q≠[]):=by intro e;rw[e] at t3;simp at t3
    go_wp2_with fail;refine(pB q r1 a s (I+1) (n+1) c2 _ hs T6.dr HT).mono ?_;rintro e w6 ⟨rfl,⟨c3,F,ac⟩,H⟩;have T7:=fH (T6.step H F);have ab:=fH ac;obtain⟨R,z1,z2,Z,X,y0,y1,y2,y3,y4⟩:=T7.tb.five;go_wp2;go_meet;refine⟨gX q,I+1+q.length,c3,rfl,T7.set 3 (by simp) (.string (gX q)),EQ,(by show _<=_;omega),?_⟩;have h1:=ab.out;have h2:=Q0.out;show _↔_;rw[iS];simp[h1,h2]
 case rest=>
 obtain⟨Q,p3,c3,rfl,T7,EQ,P3,C3⟩:=hcut;obtain⟨K,ah⟩:∃ K,p3+fS gT ((bl s).drop p3)=K:=⟨_,rfl⟩
 have ae:Hid (gm ((bl s).drop p3)=(bl s).drop K):=by show _=_;rw[jh,ah]
 have P4:Hid (I<=K):=by have:=P3.out;show _<=_;omega
 have ai:=gy a s p3 (n+1) c3 wc hs T7.dr;rw[ah] at ai;obtain⟨b,hb⟩:∃ b,fY 40 ((bl s).drop K)=b:=⟨_,rfl⟩
 have HB:=fH hb;go_wp2_with fail;refine ai.mono ?_;rintro e w7 ⟨rfl,F,H⟩;have T8:=fH (T7.step H F);go_wp2_with fail;refine(yZ 40 a s K (n+1) c3 _ hs T8.dr b HB).mono ?_;rintro e w8 ⟨rfl,F,H⟩;have T9:=fH (T8.step H F);go_upto_if 56 with(fail)
 go_cut [3] (fun v wx=>∃ (op:Nat) (V:BA) (D:Nat) (c5:Int),v=.bool true/\Hid (BC w wx a s D (n+1) c5 [.string (gX nm),.int .i64 op,.string V,.string Q,.slice none 0 0])/\Hid (oA ((bl s).drop K)=some (op,bl V,(bl s).drop D))/\Hid (K<=D)/\Hid (c5=0↔c3=0/\(op=0\/gL 1 V=0)))
 case first=>
  cases b with
  | false=>
   have ER:Hid (oA ((bl s).drop K)=some (0,bl ⟨#[]⟩,(bl s).drop K)):=Xz HB.out;go_wp2;go_meet;exact⟨0,⟨#[]⟩,K,c3,rfl,T9,ER,lr,by simp[Hid]⟩
  | true=>
   have ER:Hid (oA ((bl s).drop K)=Dc ((bl s).drop (K+1))):=by show _=_;rw[Uy HB.out,List.drop_drop]
   go_wp2_with fail;refine(GR a s (K+1) (n+1) c3 _ hs (HG.kept T9.gr) T9.dr).mono ?_;rintro e w9 ⟨H,z⟩;cases hr:Dc ((bl s).drop (K+1)) with
   | none=>
    rw[hr] at z;obtain⟨rfl,p',c',F⟩:=z;have M:=fH (T9.step H F);have EN:Hid (RR=none):=by show _=_;rw[<-HR.out];exact ach aa EQ (by rw[ae.out,ER.out,hr])
    obtain⟨R,z1,z2,Z,X,y0,y1,y2,y3,y4⟩:=M.tb.five;go_wp2_with fail;refine bodyPost_ret (v:=.tuple #[.agg #[.string (gX nm),.int .i64 0,.string ⟨#[]⟩,.string Q,.slice none 0 0],.bool false]) (by simp(maxDischargeDepth:=6) [results,results198,go_sem,R,z1,z2,Z,X]) rfl ?_;have U:=BC.same ((M.set 1 (by simp) (.int .i64 0)).set 2 (by simp) (.string ⟨#[]⟩));exact qx.no (T:=⟨gX nm,0,⟨#[]⟩,Q,none,0,[]⟩) EN U.gr U.dr rfl
   | some x=>
    obtain⟨op,v,r2⟩:=x;rw[hr] at z;obtain⟨rfl,D,c5,aF,F,af,ac⟩:=z;have M:=fH (T9.step H F);have ap:Hid (oA ((bl s).drop K)=some (op,bl (gX v),(bl s).drop D)):=by show _=_;rw[ER.out,hr,iS,af]
    have aq:Hid (op≠0):=XC hr;have ab:=fH ac;have P5:Hid (K<=D):=by show _<=_;omega
    obtain⟨R,z1,z2,Z,X,y0,y1,y2,y3,y4⟩:=M.tb.five;go_wp2;go_meet;refine⟨op,gX v,D,c5,rfl,(M.set 1 (by simp) (.int .i64 op)).set 2 (by simp) (.string (gX v)),ap,P5,?_⟩;have h1:=ab.out;have h2:=aq.out;show _↔_;simp[h1,h2]
 case rest=>
 obtain⟨op,V,D,c5,rfl,M,ER,P5,C5⟩:=hcut;obtain⟨b,hb⟩:∃ b,fY 91 ((bl s).drop D)=b:=⟨_,rfl⟩
 have HB:=fH hb;go_wp2_with fail;refine(yZ 91 a s D (n+1) c5 _ hs M.dr b HB).mono ?_;rintro e ax ⟨rfl,F,H⟩;have ad:=fH (M.step H F);go_upto_if 71 with(fail)
 go_cut [3] (fun v wx=>∃ (A:OA) (O:List BA) (cc p6:Nat) (c6:Int),v=.bool true/\Hid (BC w wx a s p6 (n+1) c6 [.string (gX nm),.int .i64 op,.string V,.string Q,.slice A O.length cc])/\Hid (wx.ownsRow (w.heap.size+1) 9 1 (.slice A O.length cc) O.length (strCells O))/\Hid (nf ((bl s).drop D)=some (O.map bl,(bl s).drop p6))/\Hid (D<=p6)/\Hid (c6=0↔c5=0/\((O.map bl).all fun x=>kH (ji x))=true))
 case first=>
  cases b with
  | false=>
   have EA:Hid (nf ((bl s).drop D)=some (([]:List BA).map bl,(bl s).drop D)):=Uz HB.out;go_wp2;go_meet;exact⟨none,[],0,D,c5,rfl,ad,World.ownsRow_nil _ _ _ _,EA,lr,by simp[Hid]⟩
  | true=>
   have EA:Hid (nf ((bl s).drop D)=mB (((bl s).drop D).length+1) (gm ((bl s).drop (D+1)))):=by show _=_;rw[PZ HB.out,List.drop_drop]
   have HF:Hid (s.size-(D+1)<((bl s).drop D).length+1):=by show _<_;rw[List.length_drop,fI];omega
   have al:w.heap.size+1<=ax.heap.size:=ad.tb.sz;go_wp2_with fail;refine(PY _ a s (D+1) (n+1) c5 _ hs HF ad.dr).mono ?_;rintro e aD z;cases hr:mB (((bl s).drop D).length+1) (gm ((bl s).drop (D+1))) with
   | none=>
    rw[hr] at z;obtain⟨H,rfl,p',c',F⟩:=z;have J:=fH (ad.step H F);have EN:Hid (RR=none):=by show _=_;rw[<-HR.out];exact aci aa EQ (by rw[ae.out];exact ER.out) (by rw[EA.out,hr])
    obtain⟨R,z1,z2,Z,X,y0,y1,y2,y3,y4⟩:=J.tb.five;go_wp2_with fail;refine bodyPost_ret (v:=.tuple #[.agg #[.string (gX nm),.int .i64 op,.string V,.string Q,.slice none 0 0],.bool false]) (by simp(maxDischargeDepth:=6) [results,results198,go_sem,R,z1,z2,Z,X]) rfl ?_;have U:=BC.same (J.set 4 (by simp) (.slice none 0 0));exact qx.no (T:=⟨gX nm,op,V,Q,none,0,[]⟩) EN U.gr U.dr rfl
   | some x=>
    obtain⟨L,r3⟩:=x;rw[hr] at z;obtain⟨A,m,cc,O,p6,c6,rfl,hS,rfl,aE,af,ac⟩:=z;obtain rfl:=hS.len;have J:=fH (ad.step hS.gr hS.dr);have ag:=fH (gF hS.row al);have ao:Hid (nf ((bl s).drop D)=some (O.map bl,(bl s).drop p6)):=by show _=_;rw[EA.out,hr,af]
    have ab:=fH ac;have P6:Hid (D<=p6):=by show _<=_;omega
    obtain⟨R,z1,z2,Z,X,y0,y1,y2,y3,y4⟩:=J.tb.five;go_wp2;go_meet;exact⟨A,O,cc,p6,c6,rfl,J.set 4 (by simp) (.slice A O.length cc),nX ag (Nat.lt_succ_self _),ao,P6,ab⟩
 case rest=>
 obtain⟨A,O,cc,p6,c6,rfl,J,ag,EA,P6,C6⟩:=hcut;have EN:Hid (RR=some (⟨nm,bl Q,op,bl V,O.map bl⟩,(bl s).drop p6)):=by show _=_;rw[<-HR.out];exact acj aa EQ (by rw[ae.out];exact ER.out) EA.out
 have CF:Hid (c6=0↔c=0/\iU.right ⟨nm,bl Q,op,bl V,O.map bl⟩=true/\n+1<=64):=by
  have h1:=C1.out;have h2:=C2.out;have h3:=C3.out;have h5:=C5.out;have h6:=C6.out;show _↔_;rw[XA,h6,h5,h3,h2,h1];simp only[nF];constructor
  ·rintro⟨⟨⟨⟨⟨a1,a2⟩,a3⟩,a4⟩,a5⟩,a6⟩;exact⟨a1,⟨a3,a4,a6,a5⟩,a2⟩
  ·rintro⟨a1,⟨a3,a4,a6,a5⟩,a2⟩;exact⟨⟨⟨⟨⟨a1,a2⟩,a3⟩,a4⟩,a5⟩,a6⟩
 have PF:Hid (p<p6):=by have h1:=PP.out;have h2:=P4.out;have h3:=P5.out;have h4:=P6.out;show _<_;omega
 obtain⟨R,z1,z2,Z,X,y0,y1,y2,y3,y4⟩:=J.tb.five;go_wp2_with fail;refine bodyPost_ret (v:=.tuple #[.agg #[.string (gX nm),.int .i64 op,.string V,.string Q,.slice A O.length cc],.bool true]) (by simp(maxDischargeDepth:=6) [results,results198,go_sem,R,z1,z2,Z,X]) rfl ?_;have U:=BC.same J.out;have RZ:=nX (j:=4) (v:=.slice A O.length cc) (nX (j:=3) (v:=.string Q) (nX (j:=2) (v:=.string V) (nX (j:=1) (v:=.int .i64 op) (nX (j:=0) (v:=.string (gX nm)) ag (Nat.lt_succ_self _)) (Nat.lt_succ_self _)) (Nat.lt_succ_self _)) (Nat.lt_succ_self _)) (Nat.lt_succ_self _);rw[EN.out];refine⟨U.gr,⟨gX nm,op,V,Q,A,cc,O⟩,p6,c6,rfl,by simp only[iK.pl,iS],gF RZ (Nat.le_succ _),U.dr,PF,rfl,CF⟩
theorem IE:(prog.info? 196).map (fun i=>(i.zero,i.size,i.bytes))=some (some (.agg #[.string ⟨#[]⟩,.int .i64 0,.string ⟨#[]⟩,.string ⟨#[]⟩,.slice none 0 0]),5,80):=by kernel_rfl
theorem Mz:(prog.info? 198).map (fun i=>(i.zero,i.size,i.bytes))=some (some (.slice none 0 0),1,24):=by kernel_rfl
theorem wq (w:World)(t:TypeId)(a b c d e:Value):nE (w.alloc (.cells #[a,b,c,d,e] t)) (w.heap.size+1) 5 (some ⟨w.heap.size,0,none⟩) 1 [a,b,c,d,e]:=by
 refine⟨rfl,fun _=>⟨_,rfl,by simp,fun j u z=>?_⟩⟩
 match j,z with
 | 0,z=>simp at z;subst z;simp[Addr.add]
 | 1,z=>simp at z;subst z;simp[Addr.add]
 | 2,z=>simp at z;subst z;simp[Addr.add]
 | 3,z=>simp at z;subst z;simp[Addr.add]
 | 4,z=>simp at z;subst z;simp[Addr.add]
 | j+5,z=>simp at z
theorem gN {lo lo':Nat}{e1 e2:TypeId}{z1 z2 n1 n2:Nat}{x1 x2:LV}(D:w.ownsRow lo e1 z1 v1 n1 x1)(H:w.ownsRow lo' e2 z2 v2 n2 x2)(z:e1≠e2)(F:w.grownBy w2 v2.ownBlock):w2.ownsRow lo e1 z1 v1 n1 x1:=
 D.kept F (lN D H z)
structure WQ (w wr:World) (a:Nat) (s:BA) (k n:Nat) (c:Int) (ts:List iK) (A:OA) (m cc:Nat):Prop where
 len:ts.length=m
 row:wr.ownsRow w.heap.size 196 5 (.slice A m cc) m (ts.flatMap iK.cells)
 archs:∀ t∈ts,t.own wr w.heap.size
 dr:DR wr a s k n c
 gr:w.grownBy wr (some a)
 lt:a<w.heap.size
theorem WQ.step {ts:List iK}(h:WQ w wr a s k n c ts A m cc)(z:wr.grownBy w' (some a))(D:DR w' a s k' n' c'):WQ w w' a s k' n' c' ts A m cc:=
 ⟨h.len,gZ h.row h.lt z,fun t ht=>(h.archs t ht).kept h.lt z,D,fN h.gr z,h.lt⟩
theorem WQ.alloc {ts:List iK}(h:WQ w wr a s k n c ts A m cc)(o:Obj):WQ w (wr.alloc o) a s k n c ts A m cc:=
 ⟨h.len,h.row.alloc o,fun t ht=>(h.archs t ht).below (bR.alloc lr o),h.dr.alloc o,ny h.gr o,h.lt⟩
theorem WQ.grow {ts:List iK}{o1 o2:Obj}{T:iK}(h:WQ w wr a s k n c ts A m cc)(I:T.own wr w.heap.size)
  (J:w2.ownsRow w.heap.size 196 5 (.slice A1 (m+1) c1) (m+1) (ts.flatMap iK.cells++T.cells))
  (D:((wr.alloc o1).alloc o2).grownBy w2 (Value.slice A m cc).ownBlock):WQ w w2 a s k n c (ts++[T]) A1 (m+1) c1:=by
 have z:=(h.alloc o1).alloc o2;have F:T.own ((wr.alloc o1).alloc o2) w.heap.size:=(I.below (bR.alloc lr o1)).below (bR.alloc lr o2);refine⟨by simp[h.len],by rw[List.flatMap_append];simpa using J,fun t ht=>?_,z.dr.kept D ?_,oJ z.gr D (fun j H=>(h.row.lt j H).1),h.lt⟩
 ·rcases List.mem_append.1 ht with ht | ht
  ·exact gN (z.archs t ht) z.row (by decide) D
  ·obtain rfl:=List.mem_singleton.1 ht;exact gN F z.row (by decide) D
 ·intro e;have:=(h.row.lt a e.symm).1;have:=h.lt;omega
def oK (r:Option (List iU×LU))(a:Nat)(s:BA)(p n:Nat)(c:Int)(w:World)(e:Ending)(w':World):Prop:=
 w.grownBy w' (some a)/\match r with
  | none=>e=.returned (.tuple #[.slice none 0 0,.bool false])/\∃ (p' n':Nat) (c':Int),DR w' a s p' n' c'
  | some (g,r)=>∃ (G:gA) (p':Nat) (c':Int),e=.returned (.tuple #[.slice G.ga G.ts.length G.gc,.bool true])/\G.pl=g/\G.own w' w.heap.size/\DR w' a s p' (n+g.length) c'/\p<p'/\(bl s).drop p'=r/\(c'=0↔c=0/\g.all iU.right=true/\n+g.length<=64)
theorem oK.no {r:Option (List iU×LU)}(D:r=none)(z:w.grownBy w' (some a))(h:DR w' a s p' n' c'):oK r a s p n c w (.returned (.tuple #[.slice none 0 0,.bool false])) w':=by
 subst D;exact⟨z,rfl,p',n',c',h⟩
theorem oK.yes {r:Option (List iU×LU)}{ts:List iK}(F:r=some (ts.map iK.pl,(bl s).drop p'))(h:WQ w w' a s p' (n+m) c' ts A m cc)(z:p<p')(D:c'=0↔c=0/\(ts.map iK.pl).all iU.right=true/\n+m<=64):oK r a s p n c w (.returned (.tuple #[.slice A m cc,.bool true])) w':=by
 subst F;obtain rfl:=h.len;refine⟨h.gr,⟨A,cc,ts⟩,p',c',rfl,rfl,⟨h.row,h.archs⟩,?_,z,rfl,?_⟩
 ·rw[List.length_map];exact h.dr
 ·rw[List.length_map];exact D
theorem P8 (F:Nat)(a:Nat)(s:BA)(p n:Nat)(c:Int)(w:World)(hs:s.size<=4294967280)(hF:s.size-p<F)(hG:yY a w)(h:DR w a s p n c)(af:c=0->n<=64):Calls prog 144 #[.pointer (some ⟨a,0,none⟩)] w (oK (ld F ((bl s).drop p)) a s p n c w):=by
 obtain⟨i0,ao,ai,au,an⟩:=info_parts IE;have HG:=fH hG;obtain⟨f0,aq⟩:∃ f0,F=f0+1:=⟨F-1,by omega⟩
 have E0:Hid (ld F ((bl s).drop p)=nt (f0+1) [] ((bl s).drop p)):=by show _=_;rw[GO,aq]
 have am:Hid (s.size-p<=f0):=by show _<=_;omega
 have aj:=fH af;generalize ld F ((bl s).drop p)=RR at E0;have S1:Hid (WQ w w a s p n c [] none 0 0):=⟨rfl,World.ownsRow_nil _ _ _ _,by simp,h,World.grownBy.refl _ _,h.sz⟩
 have al:=h.le;go_in;go_wp2;go_loopw [2,3,4] (fun s2 s3 l wr=>∃ (k m cc f:Nat) (c':Int) (K:List iK) (A:OA),s2=.slice none 0 0/\s3=.bool false/\l=.slice A m cc/\k<=s.size/\m<=k/\Hid (WQ w wr a s k (n+m) c' K A m cc)/\Hid (p<=k)/\Hid (RR=nt (f+1) (K.map iK.pl) ((bl s).drop k))/\Hid (s.size-k<=f)/\Hid (c'=0↔c=0/\(K.map iK.pl).all iU.right=true/\n+m<=64)) (fun _ _ _ wr=>s.size-Kg a wr)
 case atStart=>exact⟨p,0,0,f0,c,[],none,rfl,rfl,rfl,al,z0,S1,lr,E0,am,by have:=aj.out;show _↔_;simpa using this⟩
 case round=>
  obtain⟨k,m,cc,f,c',K,A,rfl,rfl,rfl,hk,az,U,HP,HE,HF,HC⟩:=hrel;go_wp2_with fail;refine(UA a s k (n+m) c' wr hs (HG.kept U.gr) U.dr).mono ?_;rintro e w2 ⟨M,z⟩;cases ht:mX ((bl s).drop k) with
  | none=>
   rw[ht] at z;obtain⟨T,D,n',R,rfl,H⟩:=z;have Z:=fH (U.step M H);have V:Hid (RR=none):=by show _=_;rw[HE.out];exact Kc ht
   unfold iK.val;go_wp2;go_ret2;have:=Z.alloc (.cells #[.string T.nm,.int .i64 T.op,.string T.ver,.string T.qual,.slice T.aa T.archs.length T.ac] 196);exact oK.no V this.gr this.dr
  | some x=>
   obtain⟨t,r⟩:=x;rw[ht] at z;obtain⟨T,D,R,rfl,hT,ah,H,ar,ax,ap⟩:=z;have Z:=fH (U.step M H);have ak:=fH (ah.base (lo':=w.heap.size) U.gr.size);have ay:=H.le;have C2:Hid (R=0↔c=0/\((K++[T]).map iK.pl).all iU.right=true/\n+(m+1)<=64):=by
    have h1:=HC.out;show _↔_;rw[ap,h1,List.map_append,List.all_append];simp only[List.map_cons,List.map_nil,List.all_cons,List.all_nil,Bool.and_true,Bool.and_eq_true,hT];constructor
    ·rintro⟨⟨a1,a2,a3⟩,a4,a5⟩;exact⟨a1,⟨a2,a4⟩,by omega⟩
    ·rintro⟨a1,⟨a2,a4⟩,a5⟩;exact⟨⟨a1,a2,by omega⟩,a4,by omega⟩
   have HD:=fH ax;have HT:=fH hT;have ad:=fH ht;have aA:m<=4294967280:=by omega
   have O:Hid (k<D):=ar;unfold iK.val;go_wp2_with (at_builtin;refine fR _ rfl _ _ _ rfl w.heap.size 196 i0 _ 5 80 underlying198 ao ai au an rfl (by omega) (.slice A m cc) m _ rfl ((Z.row.alloc _).alloc _) (w2.heap.size+1+1) (some ⟨w2.heap.size+1,0,none⟩) 1 1 T.cells rfl (by have:=wq (w2.alloc (.cells T.cells.toArray 196)) 196 (.string T.nm) (.int .i64 T.op) (.string T.ver) (.string T.qual) (.slice T.aa T.archs.length T.ac);simpa [iK.cells] using this) (by simp[Value.oneCell',iK.cells]) (by simp only[maxLen];omega) (by omega) (by simp;have:=Z.gr.size;omega) ?_;intro v1 w3 o1 g1 a1);obtain⟨A3,c3,rfl⟩:=gg o1;have S3:=fH (Z.grow (T:=T) ak o1 g1);cases hb:fY 124 ((bl s).drop D) with
   | false=>
    have HB:=fH hb;have V:Hid (RR=some ((K++[T]).map iK.pl,(bl s).drop D)):=by
     show _=_;rw[HE.out,Mo ad.out (by rw[<-HD.out];exact hb),List.map_append,HD.out];simp[HT.out]
    have PF:Hid (p<D):=by have h1:=HP.out;have h2:=O.out;show _<_;omega
    go_wp2_with fail;refine(gt 124 a s D _ R w3 hs S3.dr HB).mono ?_;rintro e w4 ⟨rfl,H,M⟩;have S4:=fH (S3.step M H);go_wp2;go_ret2;exact oK.yes V S4 PF C2.out
   | true=>
    have HB:=fH hb;obtain⟨J,X⟩:∃ J,D+1+fS gT ((bl s).drop (D+1))=J:=⟨_,rfl⟩
    have V:Hid (RR=nt (f-1+1) ((K++[T]).map iK.pl) ((bl s).drop J)):=by
     have hf:=HF.out;have h2:=O.out;show _=_;rw[HE.out,Kd ad.out (by rw[<-HD.out];exact hb),<-HD.out,List.drop_drop,jh,X,List.map_append,show f-1+1=f by omega];simp[HT.out]
    have ab:=fH (fun (W:World) (hD:DR W a s (D+1) (n+(m+1)) R)=>gy a s (D+1) (n+(m+1)) R W hs hD);rw[X] at ab;have I:Hid (k<J):=by have:=O.out;show _<_;omega
    have av:Hid (s.size-J<=f-1):=by have:=HF.out;have:=I.out;show _<=_;omega
    have ag:Hid (p<=J):=by have:=HP.out;have:=I.out;show _<=_;omega
    have Y:m+1<=J:=by have:=I.out;omega
    go_wp2_with fail;refine(gK 124 a s D _ R w3 hs S3.dr HB).mono ?_;rintro e w4 ⟨rfl,H,M⟩;have S4:=fH (S3.step M H);go_wp2_with fail;refine(ab w4 S4.dr).mono ?_;rintro e w5 ⟨rfl,H,M⟩;have S5:=fH (S4.step M H);have ae:=S5.dr.le;go_wp2;go_roundw
    case rel=>exact⟨J,m+1,c3,f-1,R,K++[T],A3,rfl,rfl,rfl,ae,Y,S5,ag,V,av,C2⟩
    case measure=>exact DR.dec S5.dr U.dr I.out
theorem adg (s p:BA)(w:World):Calls prog 271 #[.string s,.string p] w fun e w'=>e=.returned (.string (gX (Lib.trimPrefix (bl s) (bl p))))/\w=w':=
 (Tryz.strings_TrimPrefix s p w).mono fun _ _ ⟨D,z⟩=>⟨D,z.symm⟩
structure iK.okT (t:iK):Prop where
 nm:hH (bl t.nm)=true
 qual:t.qual.size=0\/kH (bl t.qual)=true
 archs:∀ x∈t.archs,kH (ji (bl x))=true
 op:t.op<=5
 ver0:t.op=0->t.ver.size=0
 ver:0<t.op->gL 1 t.ver=0
 nmz:t.nm.size<=64
 qualz:t.qual.size<=32
 verz:t.ver.size<=64
 archz:∀ x∈t.archs,x.size<=33
 few:t.archs.length<=1000000
theorem iK.okT_of {t:iK}(h:t.pl.good):t.okT:=by
 have p:=h.parts;have z:=h.sizes;refine⟨p.nm,?_,fun x F=>p.archs (bl x) (List.mem_map.2 ⟨x,F,rfl⟩),h.op,fun D=>?_,fun D=>?_,?_,?_,?_,fun x F=>?_,?_⟩
 ·rcases p.qual with D | D
  ·left;rw[<-fI];exact List.length_eq_zero_iff.2 D
  ·exact .inr D
 ·rw[<-fI];exact List.length_eq_zero_iff.2 (h.ver D)
 ·have:=p.ver D;rwa [show gX t.pl.ver=t.ver from nF _] at this
 ·rw[<-fI];exact z.nm
 ·rw[<-fI];exact z.qual
 ·rw[<-fI];exact z.ver
 ·rw[<-fI];exact z.archs (bl x) (List.mem_map.2 ⟨x,F,rfl⟩)
 ·have:=h.few;simpa [iK.pl] using this
theorem Qd (t:iK)(h:t.okT)(w:World)(hG:Gl w)(hr:Rd w 1 t.aa t.archs.length (strCells t.archs)):Calls prog 237 #[t.val] w fun e w'=>e=.returned (.int .i64 0)/\Bw w w':=by
 unfold iK.val;obtain⟨h1,h2,h3,h4,h5,h6,h7,h8,h9,J,ad⟩:=h;have HG:=fH hG;have HR:=fH hr;have X:=fun W=>nC t.nm W (by omega);rw[h1] at X;have HA:=fH h3;have HZ:=fH J;have H5:=fH h5;have H6:=fH h6;clear hG hr h1 h3 J h5 h6;obtain⟨nm,op,ver,z,aa,ac,archs⟩:=t;simp only at *;obtain⟨K,F⟩:∃ K,w.alloc (.cells #[.string nm,.int .i64 op,.string ver,.string z,.slice aa archs.length ac] 196)=K:=⟨_,rfl⟩
 have K1:Hid (fV K w.heap.size [.string nm,.int .i64 op,.string ver,.string z,.slice aa archs.length ac]):=by rw[<-F];exact fV.new w _ _
 have U:Hid (Bw w K):=by rw[<-F];exact bR.alloc lr _
 obtain⟨c0,c1,c2,c3,c4,f0,f1,f2,f3,f4⟩:=K1.five;clear f0 f1 f2 f3 f4;go_in;go_upto_region 1 with(fail)
 clear F;go_cut [20] (fun v wx=>v=.bool false/\K=wx)
 case first=>
  by_cases Z:z.size=0
  ·have M:z.toList=[]:=by rw[fK,hZ z Z]
   have D:z.toList.isEmpty=true:=by rw[M];rfl
   go_wp2_with fail;refine mb (X _) ?_;rintro w' rfl;go_wp2;go_meet;exact⟨rfl,rfl⟩
  ·have D:z.toList.isEmpty=false:=by rw[fK,gu];exact dF Z
   have M:¬ z.toList=[]:=by intro h;rw[h] at D;simp at D
   have H:=fun W=>yX z W (by omega);rw[h2.resolve_left Z] at H;go_wp2_with fail;refine mb (X _) ?_;rintro w' rfl;go_wp2_with fail;refine mb (H _) ?_;rintro w' rfl;go_wp2;go_meet;exact⟨rfl,rfl⟩
 case rest=>
 obtain⟨rfl,rfl⟩:=hcut;clear h2 X;go_wp2;go_loop [24] (fun i=>∃ k:Nat,k<=archs.length/\i=.int .i64 k) (fun i=>archs.length-(intOf i).toNat)
 case atStart=>exact⟨0,z0,rfl⟩
 case round=>
  obtain⟨k,hk,rfl⟩:=hrel;by_cases I:k<archs.length
  ·obtain⟨x,V⟩:∃ x,archs[k]?=some x:=⟨_,gG I⟩
   obtain⟨b,off,hA,M⟩:=(HR.below U).str k x V;have Y:=fun W=>gi (T:=33) (E:=9) (sz:=1) (c:=ac) underlying33 rfl sizeOf9 hA I W;simp only[Nat.mul_one] at Y;have hT:=fun W=>adg x ⟨#[33]⟩ W;rw[show bl ⟨#[33]⟩=[33] from rfl,Iu] at hT;have ab:=HZ.out x (gM V);have H:=fun W=>yX (gX (ji (bl x))) W (by rw[iB];have:=IF (bl x);rw[fI] at this;omega);rw[iS,HA.out x (gM V)] at H;clear V hA;go_wp2_with fail;refine mb (hT _) ?_;rintro w' rfl;go_wp2_with fail;refine mb (H _) ?_;rintro w' rfl;go_wp2;go_round
   case rel=>exact⟨k+1,by omega,by go_num⟩
   case measure=>simp[intOf];omega
  ·by_cases o0:op=0
   ·have O:=H5.out o0;have M:ver.toList=[]:=by rw[fK,hZ ver O]
    have D:ver.toList.isEmpty=true:=by rw[M];rfl
    subst o0;clear O;go_wp2;go_ret;exact⟨rfl,U⟩
   ·have O:=H6.out (by omega);have o1:decide ((op:Int)<0)=false:=dF (by omega);have o2:decide ((5:Int)<(op:Int))=false:=dF (by omega);have o3:((op:Int)==0)=false:=by simp;omega
    have hC:=fun W H=>gP 1 ver W H (by omega);rw[O] at hC;clear O o0;go_wp2_with fail;refine mb (hC _ (HG.below U)) ?_;rintro w1 R;have B2:Hid (Bw w w1):=fM U R;clear R;go_wp2;go_ret;exact⟨rfl,B2⟩
theorem DE {gs:List gA}{g:gA}(h:gs[k]?=some g):(gs.map gA.sl)[k]?=some (.slice g.ga g.ts.length g.gc):=by rw[List.getElem?_map,h];rfl
theorem Rd.one {xs:LV}(h:Rd w 1 A n xs)(i:Nat)(v:Value)(D:xs[i]?=some v)(F:i<n):
  ∃ b off,A=some ⟨b,off,none⟩/\w.cell? ⟨b,off+i,none⟩=some v:=by
 obtain⟨b,off,e,z⟩:=h.2 (by omega);exact⟨b,off,e,z i _ D⟩
def DF (l:List gA):Nat:=(l.map fun g=>g.ts.length).sum
theorem II (l:List gA)(k:Nat)(g:gA)(h:l[k]?=some g):DF (l.take (k+1))=DF (l.take k)+g.ts.length:=by
 obtain⟨D,z⟩:=gS h;unfold DF;rw[tS D,z];simp
theorem aai (l:List gA)(k:Nat):DF (l.take k)<=DF l:=by
 conv=>rhs;rw[<-List.take_append_drop k l]
 unfold DF;rw[List.map_append,List.sum_append];omega
structure vm (gs:List gA):Prop where
 few:gs.length<=64
 sum:DF gs<=64
 ne:∀ g∈gs,0<g.ts.length
 len:∀ g∈gs,g.ts.length<=64
 ok:∀ g∈gs,∀ t∈g.ts,t.okT
theorem vm.of {gs:List gA}(h:pR (gs.map gA.pl)):vm gs:=by
 have e:((gs.map gA.pl).map List.length).sum=DF gs:=by unfold DF;rw[List.map_map];congr 1;apply List.map_congr_left;intro g _;simp[gA.pl]
 have F:=h.sum;rw[e] at F;refine⟨by have:=h.few;simpa using this,F,fun g z=>?_,fun g z=>?_,fun g z t ht=>?_⟩
 ·have:=h.ne g.pl (List.mem_map.2 ⟨g,z,rfl⟩);rcases Nat.eq_zero_or_pos g.ts.length with D | D
  ·exact absurd (by unfold gA.pl;rw[List.length_eq_zero_iff.1 D];rfl) this
  ·exact D
 ·have:=acl (L:=gs.map gA.pl) (g:=g.pl) (List.mem_map.2 ⟨g,z,rfl⟩);rw[e] at this;unfold gA.pl at this;rw[List.length_map] at this;omega
 ·exact iK.okT_of (h.good g.pl (List.mem_map.2 ⟨g,z,rfl⟩) t.pl (List.mem_map.2 ⟨t,ht,rfl⟩))
theorem Qe (A:OA)(c:Nat)(z:List gA)(hW:vm z)(w:World)(hG:Gl w)(hr:rQ w A z):Calls prog 191 #[.slice A z.length c] w fun e w'=>e=.returned (.int .i64 0)/\Bw w w':=by
 have HG:=fH hG;have X:=fH hr;have U:=fH hW;have ao:=hW.few;clear hG hr hW;go_in;go_wp2;go_loop [3,15] (fun n i=>∃ k m:Nat,k<=z.length/\m<=64/\n=.int .i64 m/\i=.int .i64 k/\Hid (m=DF (z.take k))) (fun _ i=>z.length-(intOf i).toNat)
 case atStart=>exact⟨0,0,z0,by omega,rfl,rfl,rfl⟩
 case round=>
  obtain⟨k,m,hk,hm,rfl,rfl,HM⟩:=hrel;by_cases O:k<z.length
  ·obtain⟨g,D⟩:∃ g,z[k]?=some g:=⟨_,gG O⟩
   obtain⟨b,off,M,he⟩:=X.row.one k _ (DE D) O;have F:=fun W=>gi (T:=83) (E:=198) (sz:=1) (c:=c) underlying83 rfl sizeOf198 M O W;simp only[Nat.mul_one] at F;have R:=U.len g (gM D);have aj:m+g.ts.length<=64:=by have h1:=HM.out;have h2:=II z k g D;have h3:=aai z (k+1);have h4:=U.sum;omega
   have ah:Hid (m+g.ts.length=DF (z.take (k+1))):=by have h1:=HM.out;have h2:=II z k g D;show _=_;omega
   clear D M;generalize g.ts.length=gl at *;go_wp2;go_round
   case rel=>exact⟨k+1,m+gl,by omega,aj,by go_num,by go_num,ah⟩
   case measure=>simp[intOf];omega
  ·have ap:decide ((64:Int)<(m:Int))=false:=dF (by omega);clear HM;go_wp2;go_loop [2,28] (fun V i=>∃ k:Nat,k<=z.length/\V=.int .i64 0/\i=.int .i64 k) (fun _ i=>z.length-(intOf i).toNat)
   case atStart=>exact⟨0,z0,rfl,rfl⟩
   case round=>
    obtain⟨j,hj,rfl,rfl⟩:=hrel;by_cases I:j<z.length
    ·obtain⟨g,D⟩:∃ g,z[j]?=some g:=⟨_,gG I⟩
     obtain⟨b,off,M,he⟩:=X.row.one j _ (DE D) I;have F:=fun W=>gi (T:=83) (E:=198) (sz:=1) (c:=c) underlying83 rfl sizeOf198 M I W;simp only[Nat.mul_one] at F;have R:=U.len g (gM D);have ar:=U.ne g (gM D);clear D M;generalize g.ts.length=gl at *;have aq:((gl:Int)==0)=false:=by simp;omega
     go_wp2;go_round
     case rel=>exact⟨j+1,by omega,rfl,by go_num⟩
     case measure=>simp[intOf];omega
    ·go_wp2;go_loopw [2,38] (fun V i wr=>∃ k:Nat,k<=z.length/\V=.int .i64 0/\i=.int .i64 k/\Hid (Bw w wr)) (fun _ i _=>z.length-(intOf i).toNat)
     case atStart=>exact⟨0,z0,rfl,rfl,bR⟩
     case round=>
      obtain⟨i,hi,rfl,rfl,HB⟩:=hrel;by_cases J:i<z.length
      ·obtain⟨g,D⟩:∃ g,z[i]?=some g:=⟨_,gG J⟩
       have Y:=fH (X.below HB);obtain⟨b,off,M,he⟩:=Y.row.one i _ (DE D) J;have F:=fun W=>gi (T:=83) (E:=198) (sz:=1) (c:=c) underlying83 rfl sizeOf198 M J W;simp only[Nat.mul_one] at F;have R:=U.len g (gM D);have ag:=fH (X.grp g (gM D));have al:=fH (X.archs g (gM D));have ai:=fH (U.ok g (gM D));obtain⟨gl,H⟩:∃ gl,g.ts.length=gl:=⟨_,rfl⟩
       rw[H] at he R;have ak:=fH H;clear D M H Y;go_wp2_with fail;obtain⟨wo,rfl⟩:∃ wo:World,wo=wr:=⟨_,rfl⟩
       go_loopw [2,44] (fun V q wr=>∃ k:Nat,k<=gl/\V=.int .i64 0/\q=.int .i64 k/\Hid (Bw w wr)) (fun _ q _=>gl-(intOf q).toNat)
       case atStart=>exact⟨0,z0,rfl,rfl,HB⟩
       case round=>
        obtain⟨q,hq,rfl,rfl,K⟩:=hrel;by_cases af:q<gl
        ·have am:Hid (q<g.ts.length):=by have:=ak.out;show _<_;omega
         obtain⟨t,ht⟩:∃ t,g.ts[q]?=some t:=⟨_,gG am⟩
         obtain⟨b2,an,Z,ab⟩:=(ag.below K).elem Cj q t ht;obtain⟨e0,e1,e2,e3,e4⟩:=rF ab;simp only[Nat.add_zero] at e0;have ae:=fun W=>gi (T:=198) (E:=196) (sz:=5) (n:=gl) (c:=g.gc) underlying198 rfl sizeOf196 Z af W;have TK:=fH (ai t (gM ht));have TA:=fH (al t (gM ht));have B2:=fH (K.alloc K.size (.cells #[.string t.nm,.int .i64 t.op,.string t.ver,.string t.qual,.slice t.aa t.archs.length t.ac] 196));clear ht ab Z he F;go_wp2_with fail;refine mb (Qd t TK _ (HG.below B2) (TA.below B2)) ?_;rintro w2 ad;have B3:Hid (Bw w w2):=fM B2 ad;clear ad e0 e1 e2 e3 e4 ae;go_wp2;go_roundw
         case rel=>exact⟨q+1,by omega,rfl,by go_num,B3⟩
         case measure=>simp[intOf];omega
        ·go_wp2;go_roundw
         case rel=>exact⟨i+1,by omega,rfl,by go_num,K⟩
         case measure=>simp[intOf];omega
      ·go_wp2;go_ret;exact⟨rfl,HB⟩
end
section
open Go.RowKit Go.MapKept
def fL.key (t:fL):Value:=.agg #[.pointer t.ka,.int .i64 t.kids.length]
theorem uL:(prog.info? 86).map (fun i=>(i.zero,i.size,i.bytes))=some (some (.agg #[.string ⟨#[]⟩,.string ⟨#[]⟩,.int .i64 0,.string ⟨#[]⟩,.slice none 0 0]),5,80):=by kernel_rfl
theorem tY {lo:Nat}{t:fL}(h:iD w lo bad t)(D:t.kids≠[]):∃ g cur,t.ka=some ⟨g,0,none⟩/\w.heap[g]?=some (.cells cur 86 (0,0))/\lo<=g:=by
 rcases h.row.2 with⟨_,I⟩ | ⟨g,cap,cur,z,H,F,_⟩
 ·exact absurd (List.length_eq_zero_iff.1 I) D
 ·injection z with z;exact⟨g,cur,z,F,H⟩
theorem XQ (w:World)(d:Nat)(a:Addr):(Op.equalIn (d+1) 364 (.pointer (some a)) (.pointer (some a))).run prog w=.ok true w:=by
 obtain⟨D,z,_,F,_⟩:=info_parts uL;simp[Op.equalIn,run_underlying underlying364,sizeOf,typeInfo,z,run_sameAddr_same]
theorem UO (w:World)(d:Nat){a b:Addr}{ca cb:Array Value}{ta tb:TypeId}(z:a≠b)(F:w.heap[a.block]?=some (.cells ca ta (0,0)))(H:w.heap[b.block]?=some (.cells cb tb (0,0))):(Op.equalIn (d+1) 364 (.pointer (some a)) (.pointer (some b))).run prog w=.ok false w:=by
 obtain⟨J,D,_,I,_⟩:=info_parts uL;simp[Op.equalIn,run_underlying underlying364,sizeOf,typeInfo,D,I,run_sameAddr_other w z F H]
theorem UP {t u:fL}(ht:iD w 0 none t)(U:iD w 0 none u)(K:t.kids≠[])(J:u.kids≠[]):
  (Op.equal 366 t.key u.key).run prog w=.ok (decide (t.ka=u.ka/\t.kids.length=u.kids.length)) w:=by
 obtain⟨D,Y,M,R,_⟩:=tY ht K;obtain⟨H,X,V,O,_⟩:=tY U J;unfold fL.key Op.equal Op.maxDepth;rw[M,V];by_cases F:D=H
 ·subst F;have z:=fun d=>XQ w d ⟨D,0,none⟩;simp[go_sem,z];by_cases I:t.kids.length=u.kids.length
  ·simp[I]
  ·simp[I];omega
 ·have z:=fun d=>UO w d (a:=⟨D,0,none⟩) (b:=⟨H,0,none⟩) (fun e=>F (by injection e)) R O;simp[go_sem,z,F]
theorem uM (w:World)(z:Bool)(t:fL):(Instr.checkKey z 10000 366 t.key).run prog w=.ok () w:=by
 have h:∀ d:Nat,(Instr.checkKey z (d+1+1) 366 t.key).run prog w=.ok () w:=by
  intro d;unfold fL.key;simp[Instr.checkKey,run_underlying underlying366,go_sem]
 exact h 9998
theorem UQ (w:World){t u:fL}(z:t.ka=u.ka)(D:t.kids.length=u.kids.length):(Instr.keyThatStays t.key u.key).run prog w=.ok u.key w:=by
 have:t.key=u.key:=by unfold fL.key;rw[z,D]
 rw[this];unfold fL.key;simp[Instr.keyThatStays,Instr.sameBits]
theorem uN (w:World)(k:Value)(z:List MapEntry):(Instr.findKey 366 k z).run prog w=(Instr.findAsking 366 k z 0).run prog w:=by
 cases z with
 | nil=>simp[Instr.findKey,Instr.findAsking,Instr.findNow,run_underlying underlying366]
 | cons e r=>simp[Instr.findKey,Instr.findNow,Instr.sameNow,run_underlying underlying366]
structure mv (w:World) (b:Nat) (ms:List (fL×Nat)):Prop where
 ex:∃ es clock,w.heap[b]?=some (.map es clock)/\es.toList.map (fun e=>(e.key,e.val))=ms.map (fun p=>(p.1.key,Value.int .i64 p.2))
 own:∀ p∈ms,iD w 0 none p.1/\p.1.kids≠[]
theorem DU {w:World}{t:fL}(ht:iD w 0 none t)(K:t.kids≠[]):∀ (F:List MapEntry)(D:List (fL×Nat))(i:Nat),F.map (fun e=>(e.key,e.val))=D.map (fun p=>(p.1.key,Value.int .i64 p.2))->(∀ p∈D,iD w 0 none p.1/\p.1.kids≠[]) ->
  ((Instr.findAsking 366 t.key F i).run prog w=.ok none w) \/
  ∃ j p,(Instr.findAsking 366 t.key F i).run prog w=.ok (some (i+j,Value.int .i64 p.2)) w/\D[j]?=some p/\p.1.ka=t.ka/\p.1.kids=t.kids
 | [],D,i,_,_=>.inl (by simp[Instr.findAsking])
 | e::F,[],i,h,_=>by simp at h
 | e::F,p::D,i,h,ho=>by
  simp only[List.map_cons,List.cons.injEq,Prod.mk.injEq] at h;obtain⟨⟨J,R⟩,V⟩:=h;obtain⟨M,X⟩:=ho p (by simp);have z:=UP ht M K X;by_cases H:t.ka=p.1.ka/\t.kids.length=p.1.kids.length
  ·right;refine⟨0,p,?_,rfl,H.1.symm,(UJ ht.rd p.1 M.rd H.1 H.2).symm⟩;rw[dT H] at z;simp[Instr.findAsking,J,R,z]
  ·rw[dF H] at z;rcases DU ht K F D (i+1) V (fun q z=>ho q (by simp[z])) with I | ⟨j,q,I,U,O⟩
   ·left;simp[Instr.findAsking,J,z,I]
   ·right;exact⟨j+1,q,by simp[Instr.findAsking,J,z,I,Nat.add_assoc,Nat.add_comm 1 j],by simpa using U,O⟩
theorem mv.look {b:Nat}{ms:List (fL×Nat)}(h:mv w b ms){t:fL}(ht:iD w 0 none t)(I:t.kids≠[]):
  ((Instr.lookup 328 (.map (some b)) t.key true).run prog w=.ok (.tuple #[.int .i64 0,.bool false]) w) \/
  ∃ p∈ms,p.1.kids=t.kids/\(Instr.lookup 328 (.map (some b)) t.key true).run prog w=.ok (.tuple #[.int .i64 p.2,.bool true]) w:=by
 obtain⟨M,D,F,H⟩:=h.ex;rcases DU ht I M.toList ms 0 H h.own with z | ⟨j,p,z,J,O,K⟩
 ·left;simp[Instr.lookup,run_underlying underlying328,MapKept.run_getObj_map F,uM,uN,z,go_sem]
 ·right;exact⟨p,gM J,K,by simp[Instr.lookup,run_underlying underlying328,MapKept.run_getObj_map F,uM,uN,z]⟩
theorem iD.off {lo b:Nat}{t:fL}{es:Array MapEntry}{c:Nat}(h:iD w lo bad t)(I:w.heap[b]?=some (.map es c)):iD w lo (some b) t:=by
 induction h with
 | mk t row ne _ ih=>
  refine .mk t row (fun g z e=>?_) ih;injection e with e;subst e;rcases row.2 with⟨D,_⟩ | ⟨J,cap,H,D,_,F,_⟩
  ·rw[D] at z;simp[Value.ownBlock] at z
  ·rw[D] at z;simp[Value.ownBlock] at z;subst z;rw[I] at F;simp at F
theorem mv.tree {lo b:Nat}{ms:List (fL×Nat)}{t:fL}(h:mv w b ms)(ht:iD w lo none t)(D:w.grownBy w' (some b)):iD w' lo none t:=by
 obtain⟨H,z,F,_⟩:=h.ex;exact((ht.off F).grown D).any
theorem mv.below {b:Nat}{ms:List (fL×Nat)}(h:mv w b ms)(H:Bw w w'):mv w' b ms:=by
 obtain⟨J,z,F,I⟩:=h.ex;exact⟨⟨J,z,(H.block b (Array.getElem?_eq_some_iff.1 F).1).trans F,I⟩,fun p D=>⟨(h.own p D).1.low H,(h.own p D).2⟩⟩
theorem mv.lt {b:Nat}{ms:List (fL×Nat)}(h:mv w b ms):b<w.heap.size:=by
 obtain⟨F,z,D,H⟩:=h.ex;exact(Array.getElem?_eq_some_iff.1 D).1
theorem mv.made (w:World):mv (w.alloc (.map #[] 0)) w.heap.size []:=⟨⟨#[],0,heap_alloc_new w _,by simp⟩,by simp⟩
theorem mv.put {b:Nat}{ms:List (fL×Nat)}(h:mv w b ms){t:fL}(ht:iD w 0 none t)(hk:t.kids≠[])(v:Nat):
  ∃ w' ms',(Instr.mapUpdate 328 (.map (some b)) t.key (.int .i64 v)).run prog w=.ok () w'/\mv w' b ms'/\w.grownBy w' (some b)/\w'.heap.size=w.heap.size /\
   (∀ p∈ms',(∃ q∈ms,q=p)\/p.1.kids=t.kids/\p.2=v)/\(∀ p∈ms,∃ q∈ms',q.1=p.1)/\∃ q∈ms',q.1.kids=t.kids:=by
 obtain⟨K,z,J,U⟩:=h.ex;have ac:=h.lt;have grow:∀ o,w.grownBy { w with heap:=w.heap.setIfInBounds b o } (some b):=fun o=>⟨rfl,rfl,rfl,by simp,fun k hk Z=>(heap_set J).2 k (fun e=>Z (by rw[e]))⟩
 rcases DU ht hk K.toList ms 0 U h.own with X | ⟨j,p,X,M,h3,V⟩
 ·refine⟨{ w with heap:=w.heap.setIfInBounds b (.map (K.push { key:=t.key,val:=.int .i64 v,born:=z }) (z+1)) },ms++[(t,v)],?_,⟨⟨_,_,(heap_set J).1,by simp[U]⟩,fun p D=>?_⟩,grow _,by simp,fun p D=>?_,fun p D=>⟨p,by simp[D],rfl⟩,⟨(t,v),by simp,rfl⟩⟩
  ·simp[Instr.mapUpdate,run_underlying underlying328,MapKept.run_getObj_map J,uM,uN,X,MapKept.run_setObj_map _ J]
  ·rcases List.mem_append.1 D with D | D
   ·exact⟨h.tree (h.own p D).1 (grow _),(h.own p D).2⟩
   ·obtain rfl:=List.mem_singleton.1 D;exact⟨h.tree ht (grow _),hk⟩
  ·rcases List.mem_append.1 D with D | D
   ·exact .inl ⟨p,D,rfl⟩
   ·obtain rfl:=List.mem_singleton.1 D;exact .inr ⟨rfl,rfl⟩
 ·simp only[Nat.zero_add] at X;obtain⟨Y,ad⟩:=gS M;have R:K.size=ms.length:=by have:=congrArg List.length U;simpa using this
  have ab:K[j]?.map (fun e=>e.key)=some p.1.key:=by
   have:=congrArg (fun l=>l[j]?) U;simp[M] at this;obtain⟨e,he,h5,h6⟩:=this;rw[he];simp[h5]
  have aa:=UQ w (t:=p.1) (u:=t) h3 (by rw[V]);have O:p.1.key=t.key:=by unfold fL.key;rw[h3,V]
  refine⟨{ w with heap:=w.heap.setIfInBounds b (.map (K.modify j fun e=>{ e with key:=t.key,val:=.int .i64 v }) z) },ms.set j (p.1,v),?_,⟨⟨_,_,(heap_set J).1,?_⟩,fun q H=>?_⟩,grow _,by simp,fun q H=>?_,fun q H=>?_,⟨(p.1,v),List.mem_set Y _,V⟩⟩
  ·simp[Instr.mapUpdate,run_underlying underlying328,MapKept.run_getObj_map J,uM,uN,X,MapKept.run_setObj_map _ J,ab,aa]
  ·apply List.ext_getElem?;intro i;have I:=congrArg (fun l=>l[i]?) U;simp only[List.getElem?_map,Array.getElem?_toList] at I;simp only[List.getElem?_map,Array.getElem?_toList,Array.getElem?_modify,List.getElem?_set];by_cases F:j=i
   ·subst F;obtain⟨e,he⟩:∃ e,K[j]?=some e:=⟨_,Array.getElem?_eq_getElem (by rw[R];exact Y)⟩
    simp[Y,he,O]
   ·simp[F,I]
  ·rcases List.mem_or_eq_of_mem_set H with H | rfl
   ·exact⟨h.tree (h.own q H).1 (grow _),(h.own q H).2⟩
   ·exact⟨h.tree (h.own p (gM M)).1 (grow _),(h.own p (gM M)).2⟩
  ·rcases List.mem_or_eq_of_mem_set H with H | rfl
   ·exact .inl ⟨q,H,rfl⟩
   ·exact .inr ⟨V,rfl⟩
  ·obtain⟨i,I⟩:=List.getElem?_of_mem H;by_cases F:j=i
   ·subst F;rw[M] at I;injection I with I;subst I;exact⟨(p.1,v),List.mem_set Y _,rfl⟩
   ·exact⟨q,gM (i:=i) (by rw[List.getElem?_set_ne F];exact I),rfl⟩
theorem AC (f:fL->Nat):∀ (m:Nat)(l:List (fL×Nat)),(∀ i,i<m->∃ p∈l,f p.1=i)->m<=l.length
 | 0,_,_=>z0
 | m+1,l,h=>by
  obtain⟨p,D,F⟩:=h m (by omega);have J:=AC f m (l.filter fun q=>decide (f q.1≠m)) (fun i K=>by
   obtain⟨q,H,z⟩:=h i (by omega);exact⟨q,List.mem_filter.2 ⟨H,by simp;omega⟩,z⟩)
  have I:(l.filter fun q=>decide (f q.1≠m)).length<l.length:=List.length_filter_lt_length_iff_exists.2 ⟨p,D,by simp[F]⟩;omega
end
section
open Go.RowKit
structure iA where
 nm:BA
 what:BA
 code:Int
def iA.cells (r:iA):LV:=[.string r.nm,.string r.what,.int .i64 r.code]
theorem V5:(prog.info? 49).map (fun i=>(i.zero,i.size,i.bytes))=some (some (.agg #[.string ⟨#[]⟩,.string ⟨#[]⟩,.int .i64 0]),3,40):=by kernel_rfl
def WT (a b:Int)(m r:Value):LV:=[.int .i64 a,.int .i64 b,m,r]
def zPk:LV:=[.string ⟨#[]⟩,.string ⟨#[]⟩,.string ⟨#[]⟩,.string ⟨#[]⟩,.slice none 0 0,.slice none 0 0,.slice none 0 0,.slice none 0 0,.slice none 0 0]
structure iT (T:Nat->Prop) (w w':World):Prop where
 os:w'.os=w.os
 tape:w'.tape=w.tape
 output:w'.output=w.output
 size:w.heap.size<=w'.heap.size
 block:∀ k,k<w.heap.size->¬ T k->w'.heap[k]?=w.heap[k]?
theorem iT.refl (T:Nat->Prop)(w:World):iT T w w:=⟨rfl,rfl,rfl,lr,fun _ _ _=>rfl⟩
theorem iT.trans {a b c:World}(h:iT T a b)(k:iT T b c):iT T a c:=
 ⟨k.os.trans h.os,k.tape.trans h.tape,k.output.trans h.output,Nat.le_trans h.size k.size,fun i z D=>(k.block i (Nat.lt_of_lt_of_le z h.size) D).trans (h.block i z D)⟩
theorem iT.below {a b c:World}(h:iT T a b)(k:Bw b c):iT T a c:=
 h.trans ⟨k.os,k.tape,k.output,k.size,fun i z _=>k.block i z⟩
theorem iT.grown {a b c:World}{r:Option Nat}(h:iT T a b)(k:b.grownBy c r)(H:∀ g,r=some g->T g\/a.heap.size<=g):iT T a c:=by
 refine⟨k.os.trans h.os,k.tape.trans h.tape,k.output.trans h.output,Nat.le_trans h.size k.size,fun i D F=>(k.block i (Nat.lt_of_lt_of_le D h.size) (fun e=>?_)).trans (h.block i D F)⟩;rcases H i e.symm with z | z
 ·exact F z
 ·omega
theorem iT.thru {S:Nat->Prop}{a b c:World}(h:iT T a b)(k:iT S b c)(H:∀ i,S i->T i\/a.heap.size<=i):iT T a c:=
 ⟨k.os.trans h.os,k.tape.trans h.tape,k.output.trans h.output,Nat.le_trans h.size k.size,fun i D F=>(k.block i (Nat.lt_of_lt_of_le D h.size) (fun e=>by
  rcases H i e with z | z
  ·exact F z
  ·omega)).trans (h.block i D F)⟩
theorem iT.set {a b:World}{p:Addr}(h:iT T a b)(D:T p.block\/a.heap.size<=p.block)(v:Value):iT T a (b.setCell p v):=by
 refine h.grown (r:=some p.block) (fX (World.grownBy.refl b _) (.inl rfl) v) (fun g z=>?_);injection z with z;subst z;exact D
theorem fV.but {b:Nat}{vs:LV}(h:fV w b vs)(k:iT T w w')(H:¬ T b):fV w' b vs:=by
 have z:=k.block b h.sz H;refine⟨Nat.lt_of_lt_of_le h.sz k.size,fun j u F=>?_,fun j D=>?_⟩
 ·exact(World.cell?_of_block (a:=⟨b,j,none⟩) z).trans (h.cell j u F)
 ·exact(World.frozen?_of_block (a:=⟨b,j,none⟩) z).trans (h.free j D)
theorem rk {xs:LV}(h:w.ownsRow B e sz v n xs)(k:iT T w w')(J:∀ g,v.ownBlock=some g->¬ T g):w'.ownsRow B e sz v n xs:=by
 refine⟨h.1,?_⟩;rcases h.2 with F | ⟨g,cap,z,rfl,I,D,H⟩
 ·exact .inl F
 ·exact .inr ⟨g,cap,z,rfl,I,(k.block g (Array.getElem?_eq_some_iff.1 D).1 (J g rfl)).trans D,H⟩
def fZ.sl (q:fZ)(j:Nat):Value:=match j with
 | 0=>.slice q.na q.needs.length q.nc
 | 1=>.slice q.ba q.bars.length q.bc
 | 2=>.slice q.ga q.gives.length q.gc
 | 3=>.slice q.fa q.files.length q.fc
 | _=>.slice q.sa q.scripts.length q.sc
structure jK (T:Nat->Prop) (w wr:World) (kb mb:Nat) (a b:Int) (ms:List oq) (v:Value) (R:List iA) (q:fZ):Prop where
 kp:iT T w wr
 lt:kb<w.heap.size
 ml:mb<kb
 tl:∀ g,T g->g<w.heap.size
 tk:T kb
 tv:∀ g,v.ownBlock=some g->T g\/w.heap.size+2<g
 tg:∀ g,(q.sl 2).ownBlock=some g->T g
 tf:∀ g,(q.sl 3).ownBlock=some g->T g
 fr:∀ j g,(q.sl j).ownBlock=some g->g<w.heap.size\/w.heap.size+2<g
 kv:fV wr kb (WT a b (.map (some mb)) v)
 rf:wr.ownsRow (kb+1) 49 3 v R.length (R.flatMap iA.cells)
 box:fV wr w.heap.size [.pointer (some ⟨kb,0,none⟩)]
 pk:fV wr (w.heap.size+1) q.cells
 res:fV wr (w.heap.size+2) zPk
 mp:ki wr mb ms
 own:lS q wr (kb+1)
theorem jK.step {a:Int}{ms:List oq}{R:List iA}{q:fZ}(h:jK T w wr kb mb a b ms v R q)(z:Bw wr w'):jK T w w' kb mb a b ms v R q:=
 ⟨h.kp.below z,h.lt,h.ml,h.tl,h.tk,h.tv,h.tg,h.tf,h.fr,h.kv.below z,ge h.rf z,h.box.below z,h.pk.below z,h.res.below z,h.mp.below z,h.own.below z⟩
theorem jK.drew {a:Int}{ms:List oq}{R:List iA}{q:fZ}(h:jK T w wr kb mb a b ms v R q):jK T w wr.drew kb mb a b ms v R q:=h.step ⟨rfl,rfl,rfl,lr,fun _ _=>rfl⟩
theorem il {c:Nat}{xs:LV}(h:w.ownsRow B e sz v n xs)(z:w.grownBy w' (some c))(D:v.ownBlock≠some c):w'.ownsRow B e sz v n xs:=h.kept z (.inr D)
theorem ki.grown {b c:Nat}{ms:List oq}(h:ki w b ms)(z:w.grownBy w' (some c))(D:b≠c):ki w' b ms:=h.block (z.block b h.lt (by intro e;injection e with e;exact D e))
theorem jK.lo {a:Int}{ms:List oq}{R:List iA}{q:fZ}(h:jK T w wr kb mb a b ms v R q)(j:Nat):∀ g,(q.sl j).ownBlock=some g->kb<g/\g<wr.heap.size:=by
 intro g z
 match j,z with
 | 0,z=>have:=h.own.needs.lt g z;omega
 | 1,z=>have:=h.own.bars.lt g z;omega
 | 2,z=>have:=h.own.gives.lt g z;omega
 | 3,z=>have:=h.own.files.lt g z;omega
 | j+4,z=>have:=h.own.scripts.lt g z;omega
theorem jK.put {a:Int}{ms:List oq}{R:List iA}{q:fZ}(h:jK T w wr kb mb a b ms v R q)(j:Nat)(U:j<9)(u:Value)(z:fZ)(M:z.cells=q.cells.set j u)
  (F:lS z wr (kb+1))(V:(z.sl 2).ownBlock=(q.sl 2).ownBlock)(X:(z.sl 3).ownBlock=(q.sl 3).ownBlock)(I:∀ j g,(z.sl j).ownBlock=some g->g<w.heap.size\/w.heap.size+2<g):jK T w (wr.setCell ⟨w.heap.size+1,j,none⟩ u) kb mb a b ms v R z:=by
 have Y:=h.kp.size;have K:=h.lt;have D:wr.grownBy (wr.setCell ⟨w.heap.size+1,j,none⟩ u) (some (w.heap.size+1)):=fX (World.grownBy.refl wr _) (.inl rfl) u;have O:v.ownBlock≠some (w.heap.size+1):=by
  intro e;rcases h.tv _ e with J | J
  ·have:=h.tl _ J;omega
  ·omega
 have H:∀ j,(z.sl j).ownBlock≠some (w.heap.size+1):=by
  intro j e;have:=I j _ e;omega
 refine⟨h.kp.set (.inr (by show w.heap.size<=w.heap.size+1;omega)) u,h.lt,h.ml,h.tl,h.tk,h.tv,(by rw[V];exact h.tg),(by rw[X];exact h.tf),I,h.kv.far (by omega) u,il h.rf D O,h.box.far (by omega) u,by rw[M];exact h.pk.set j U u,h.res.far (by omega) u,h.mp.grown D (by have:=h.ml;omega),?_⟩;exact⟨il F.1 D (H 0),il F.2 D (H 1),il F.3 D (H 2),il F.4 D (H 3),il F.5 D (H 4)⟩
theorem V6 {l:List fP}{x:fP}(z:l[i]?=some x)(s:BA):(l.flatMap fP.cells).set (i*3+2) (.string s)=(l.set i ⟨x.nm,x.op,s⟩).flatMap fP.cells:=by
 induction l generalizing i with
 | nil=>simp at z
 | cons a r ih=>
  cases i with
  | zero=>simp at z;subst z;simp[fP.cells]
  | succ i=>
   have:=ih (i:=i) (by simpa using z);rw[List.set_cons_succ,List.flatMap_cons,List.flatMap_cons,<-this];rw[show(i+1)*3+2=(i*3+2)+3 by omega];rfl
theorem V7 {l:List fW}{x:fW}(z:l[i]?=some x)(s:BA):(l.flatMap fW.cells).set (i*8+6) (.string s)=(l.set i { x with sum:=s }).flatMap fW.cells:=by
 induction l generalizing i with
 | nil=>simp at z
 | cons a r ih=>
  cases i with
  | zero=>simp at z;subst z;simp[fW.cells]
  | succ i=>
   have:=ih (i:=i) (by simpa using z);rw[List.set_cons_succ,List.flatMap_cons,List.flatMap_cons,<-this];rw[show(i+1)*8+6=(i*8+6)+8 by omega];rfl
theorem jK.setG {a:Int}{ms:List oq}{R:List iA}{q:fZ}(h:jK T w wr kb mb a b ms v R q){x:fP}(V:q.ga=some ⟨g,0,none⟩)(Y:q.gives[i]?=some x)(s:BA):
  jK T w (wr.setCell ⟨g,i*3+2,none⟩ (.string s)) kb mb a b ms v R { q with gives:=q.gives.set i ⟨x.nm,x.op,s⟩ }:=by
 obtain⟨nm,ver,ar,sm,na,nc,K,ba,bc,Z,ga,gc,gives,fa,fc,O,sa,sc,J⟩:=q;simp only at V Y;subst V;have X:T g:=h.tg g rfl;have ab:=h.tl g X;have aa:=h.lo 2 g rfl;obtain⟨o1,o2,H,o4,o5⟩:=h.own;obtain⟨U,I⟩:=H.stored (i*3+2) (.string s);rw[V6 Y] at U;have F:(gives.set i ⟨x.nm,x.op,s⟩).length=gives.length:=List.length_set ..;refine⟨h.kp.set (.inl X) _,h.lt,h.ml,h.tl,h.tk,h.tv,(by intro M z;exact h.tg M z),h.tf,?_,h.kv.far (by omega) _,gN h.rf H (by decide) I,h.box.far (by omega) _,?_,h.res.far (by omega) _,h.mp.grown I (by have:=h.ml;omega),⟨gN o1 H (by decide) I,gN o2 H (by decide) I,?_,gN o4 H (by decide) I,gN o5 H (by decide) I⟩⟩
 ·intro j M z;have D:=h.fr j M
  match j,z,D with
  | 0,z,D=>exact D z
  | 1,z,D=>exact D z
  | 2,z,D=>exact D z
  | 3,z,D=>exact D z
  | j+4,z,D=>exact D z
 ·have:=h.pk.far (show g≠w.heap.size+1 by omega) (j:=i*3+2) (.string s);unfold fZ.cells at this |-;simp only[F];exact this
 ·simp only[F];exact U
theorem jK.setF {a:Int}{ms:List oq}{R:List iA}{q:fZ}(h:jK T w wr kb mb a b ms v R q){x:fW}(V:q.fa=some ⟨g,0,none⟩)(Y:q.files[i]?=some x)(s:BA):
  jK T w (wr.setCell ⟨g,i*8+6,none⟩ (.string s)) kb mb a b ms v R { q with files:=q.files.set i { x with sum:=s } }:=by
 obtain⟨nm,ver,ar,sm,na,nc,K,ba,bc,Z,ga,gc,O,fa,fc,files,sa,sc,J⟩:=q;simp only at V Y;subst V;have X:T g:=h.tf g rfl;have ab:=h.tl g X;have aa:=h.lo 3 g rfl;obtain⟨o1,o2,o3,H,o5⟩:=h.own;obtain⟨U,I⟩:=H.stored (i*8+6) (.string s);rw[V7 Y] at U;have F:(files.set i { x with sum:=s }).length=files.length:=List.length_set ..;refine⟨h.kp.set (.inl X) _,h.lt,h.ml,h.tl,h.tk,h.tv,h.tg,(by intro M z;exact h.tf M z),?_,h.kv.far (by omega) _,gN h.rf H (by decide) I,h.box.far (by omega) _,?_,h.res.far (by omega) _,h.mp.grown I (by have:=h.ml;omega),⟨gN o1 H (by decide) I,gN o2 H (by decide) I,gN o3 H (by decide) I,?_,gN o5 H (by decide) I⟩⟩
 ·intro j M z;have D:=h.fr j M
  match j,z,D with
  | 0,z,D=>exact D z
  | 1,z,D=>exact D z
  | 2,z,D=>exact D z
  | 3,z,D=>exact D z
  | j+4,z,D=>exact D z
 ·have:=h.pk.far (show g≠w.heap.size+1 by omega) (j:=i*8+6) (.string s);unfold fZ.cells at this |-;simp only[F];exact this
 ·simp only[F];exact U
def SV (a b:Int)(m v:Value)(kb:Nat)(R:List iA)(x:iA)(w w':World):Prop:=
 ∃ v',fV w' kb (WT a b m v')/\w'.ownsRow (kb+1) 49 3 v' (R++[x]).length ((R++[x]).flatMap iA.cells)/\iT (fun i=>i=kb\/v.ownBlock=some i) w w'/\(v'.ownBlock=v.ownBlock\/∃ g,v'.ownBlock=some g/\w.heap.size<=g)
theorem jK.ref {a:Int}{ms:List oq}{R:List iA}{x:iA}{q:fZ}(h:jK T w wr kb mb a b ms v R q)(Z:SV a b (.map (some mb)) v kb R x wr w'):∃ v',jK T w w' kb mb a b ms v' (R++[x]) q:=by
 obtain⟨v',X,k2,D,H⟩:=Z;have Y:=h.lt;have hz:=h.res.sz;have hv:∀ g,v.ownBlock=some g->kb<g:=fun g z=>by have:=(h.rf.lt g z).1;omega
 have F:∀ c,w.heap.size<=c->c<=w.heap.size+2->¬ (c=kb\/v.ownBlock=some c):=by
  rintro c K h2 (e | e)
  ·omega
  ·rcases h.tv c e with U | U
   ·have:=h.tl _ U;omega
   ·omega
 have far:∀ (g:Nat)(B:Nat)(e:TypeId)(sz n:Nat)(u:Value)(O:LV),wr.ownsRow B e sz u n O->e≠49->kb<B->u.ownBlock=some g->¬ (g=kb\/v.ownBlock=some g):=by
  rintro g B e sz n u O M J hB z (V | V)
  ·have:=(M.lt g z).1;omega
  ·rcases lN M h.rf J with I | I
   ·rw[z] at I;cases I
   ·exact I (z.trans V.symm)
 refine⟨v',h.kp.thru D ?_,h.lt,h.ml,h.tl,h.tk,?_,h.tg,h.tf,h.fr,X,k2,h.box.but D (F _ (by omega) (by omega)),h.pk.but D (F _ (by omega) (by omega)),h.res.but D (F _ (by omega) (by omega)),h.mp.block (D.block mb h.mp.lt ?_),⟨rk h.own.1 D (fun g z=>far g _ _ _ _ _ _ h.own.1 (by decide) (by omega) z),rk h.own.2 D (fun g z=>far g _ _ _ _ _ _ h.own.2 (by decide) (by omega) z),rk h.own.3 D (fun g z=>far g _ _ _ _ _ _ h.own.3 (by decide) (by omega) z),rk h.own.4 D (fun g z=>far g _ _ _ _ _ _ h.own.4 (by decide) (by omega) z),rk h.own.5 D (fun g z=>far g _ _ _ _ _ _ h.own.5 (by decide) (by omega) z)⟩⟩
 ·rintro i (e | e)
  ·left;rw[e];exact h.tk
  ·rcases h.tv i e with K | K
   ·exact .inl K
   ·right;omega
 ·intro g z;rcases H with H | ⟨g',H,k5⟩
  ·exact h.tv g (H ▸ z)
  ·rw[H] at z;injection z with z;subst z;right;omega
 ·have:=h.ml;rintro(e | e)
  ·omega
  ·have:=hv mb e;omega
theorem fV.farN {b c:Nat}{vs:LV}(z:c≠b):∀ (D:LV)(o:Nat){wr:World},fV wr b vs->fV (wr.setCells c o D) b vs
 | [],_,_,h=>h
 | v::r,o,_,h=>fV.farN z r (o+1) (h.far z v)
theorem AY {c:Nat}:∀ (z:LV)(o:Nat)(wr:World),wr.grownBy (wr.setCells c o z) (some c)
 | [],_,wr=>World.grownBy.refl wr _
 | v::r,o,wr=>fN (fX (World.grownBy.refl wr _) (.inl rfl) v) (AY r (o+1) _)
structure CvE (T:Nat->Prop) (w W:World) (kb mb:Nat) (a b:Int) (ms:List oq) (v:Value) (R:List iA) (q:fZ):Prop where
 kp:iT T w W
 tv:∀ g,v.ownBlock=some g->T g\/w.heap.size<g
 kv:fV W kb (WT a b (.map (some mb)) v)
 rf:W.ownsRow (kb+1) 49 3 v R.length (R.flatMap iA.cells)
 mp:ki W mb ms
 own:lS q W (kb+1)
 fr:∀ j g,(q.sl j).ownBlock=some g->g<w.heap.size\/w.heap.size<g
 tg:∀ g,(q.sl 2).ownBlock=some g->T g
 tf:∀ g,(q.sl 3).ownBlock=some g->T g
theorem jK.done {W:World}{a:Int}{ms:List oq}{R:List iA}{q:fZ}(h:jK T w wr kb mb a b ms v R q)(H:wr.setCells (w.heap.size+2) 0 q.cells=W):
  fV W (w.heap.size+2) q.cells/\CvE T w W kb mb a b ms v R q:=by
 subst H;have I:=h.lt;have z:=AY q.cells 0 (c:=w.heap.size+2) wr;have D:∀ j,(q.sl j).ownBlock≠some (w.heap.size+2):=by
  intro j e;have:=h.fr j _ e;omega
 have J:v.ownBlock≠some (w.heap.size+2):=by
  intro e;rcases h.tv _ e with F | F
  ·have:=h.tl _ F;omega
  ·omega
 refine⟨?_,h.kp.grown z (fun g z=>by injection z with z;right;omega),(fun g z=>(h.tv g z).imp id (by omega)),h.kv.farN (by omega) _ 0,il h.rf z J,h.mp.grown z (by have:=h.ml;omega),⟨il h.own.1 z (D 0),il h.own.2 z (D 1),il h.own.3 z (D 2),il h.own.4 z (D 3),il h.own.5 z (D 4)⟩,fun j g z=>(h.fr j g z).imp id (by omega),h.tg,h.tf⟩;have K:fV wr (w.heap.size+2) ([]++(zPk++[])):=by simpa using h.res
 have:=fV.setN [] q.cells zPk [] wr (by rw[lk];rfl) K;simpa using this
theorem jK.start {a:Int}{ms:List oq}{R:List iA}{q:fZ}(J:kb<w.heap.size)(U:mb<kb)(V:∀ g,T g->g<w.heap.size)(O:T kb)(K:∀ g,v.ownBlock=some g->T g)(M:∀ g,(q.sl 2).ownBlock=some g->T g)(X:∀ g,(q.sl 3).ownBlock=some g->T g)
  (Z:fV w kb (WT a b (.map (some mb)) v))(hr:w.ownsRow (kb+1) 49 3 v R.length (R.flatMap iA.cells))(Y:ki w mb ms)(F:lS q w (kb+1))(H D:TypeId):
  jK T w (((w.alloc (.cells #[.pointer (some ⟨kb,0,none⟩)] H)).alloc (.cells q.cells.toArray D)).alloc (.cells zPk.toArray D)) kb mb a b ms v R q:=by
 have I:Bw w (((w.alloc (.cells #[.pointer (some ⟨kb,0,none⟩)] H)).alloc (.cells q.cells.toArray D)).alloc (.cells zPk.toArray D)):=((bR.alloc lr _).alloc (by simp) _).alloc (by simp;omega) _;refine⟨(iT.refl T w).below I,J,U,V,O,fun g z=>.inl (K g z),M,X,?_,Z.below I,ge hr I,?_,?_,?_,Y.below I,F.below I⟩
 ·intro j g z;left
  match j,z with
  | 0,z=>exact(F.needs.lt g z).2
  | 1,z=>exact(F.bars.lt g z).2
  | 2,z=>exact(F.gives.lt g z).2
  | 3,z=>exact(F.files.lt g z).2
  | j+4,z=>exact(F.scripts.lt g z).2
 ·exact((fV.new w [.pointer (some ⟨kb,0,none⟩)] H).alloc _).alloc _
 ·have h:=(fV.new (w.alloc (.cells #[.pointer (some ⟨kb,0,none⟩)] H)) q.cells D).alloc (.cells zPk.toArray D);simpa using h
 ·have h:=fV.new ((w.alloc (.cells #[.pointer (some ⟨kb,0,none⟩)] H)).alloc (.cells q.cells.toArray D)) zPk D;simpa using h
theorem Lh (w:World)(t:TypeId)(x y z:Value):nE ((w.alloc (.cells #[x,y,z] t)).drew) (w.heap.size+1) 3 (some ⟨w.heap.size,0,none⟩) 1 [x,y,z]:=ut w t x y z
theorem FJ (a b:Int)(m v:Value)(H s:Nat)(R:List iA)(nm D:BA)(z:Int)(pr:LV)(w:World)(X:fV w H (WT a b m v))(hr:w.ownsRow (H+1) 49 3 v R.length (R.flatMap iA.cells))(hR:R.length<=1000000)
  (hs:fV w s [.pointer (some ⟨H,0,none⟩)])(hp:fV w (s+1) (.string nm::pr))(O:v.ownBlock≠some s)(V:v.ownBlock≠some (s+1)):Calls prog 46 #[.string D,.int .i64 z,.pointer (some ⟨s,0,none⟩),.pointer (some ⟨s+1,0,none⟩)] w fun e w'=>e=.returned (.tuple #[])/\SV a b m v H R ⟨nm,D,z⟩ w w':=by
 obtain⟨i0,ai,ab,ae,af⟩:=info_parts V5;have c0:=hs.cell 0 _ rfl;have c1:=hp.cell 0 _ rfl;have c3:=X.cell 3 _ rfl;have n0:=fun o=>(World.cell?_alloc_lt w o ⟨s,0,none⟩ hs.sz).trans c0;have n1:=fun o=>(World.cell?_alloc_lt w o ⟨s+1,0,none⟩ hp.sz).trans c1;have n3:=fun o=>(World.cell?_alloc_lt w o ⟨H,3,none⟩ X.sz).trans c3;have HK:=fH X;have HS:=fH hs;have M:=fH hr;have ad:Hid (v.ownBlock≠some H):=by intro e;have:=(hr.lt H e).1;omega
 have aa:=fH O;have aj:=fH V;have ag:=fH X.sz;obtain⟨J,I⟩:∃ J,R.length=J:=⟨_,rfl⟩
 have ac:=fH I;rw[I] at M hR;clear X hs hp hr I O V;go_in;go_wp2
 go_region_law
  (refine iF _ (by rfl) _ _ _ (by rfl) (H+1) 49 i0 _ 3 40 underlying27 ai ab ae af rfl (by omega) v J (R.flatMap iA.cells) (by rfl) ((M.alloc _).drew) (w.heap.size+1) (some ⟨w.heap.size,0,none⟩) 1 1 [.string nm,.string D,.int .i64 z] (by rfl) (Lh w _ _ _ _) (by simp[Value.oneCell']) (by simp only[maxLen];omega) (by omega) (by have:=ag.out;simp;omega) ?_
   intro v6 w6 F K Y;obtain⟨A6,c6,rfl⟩:=gg F;have K6:=fH (((HK.alloc (.cells #[.string nm,.string D,.int .i64 z] 49)).drew).grownQ K (fun e=>ad.out e.symm));have S6:=fH (((HS.alloc (.cells #[.string nm,.string D,.int .i64 z] 49)).drew).grownQ K (fun e=>aa.out e.symm));have x0:=S6.cell 0 _ rfl;have x3:=K6.cell 3 _ rfl;have f3:=K6.free 3 (by show _<4;omega))
 all_goals
  go_wp2;go_end0;have KF:=K6.set 3 (by show 3<4;omega) (.slice A6 (J+1) c6);have Z:w6.grownBy (w6.setCell ⟨H,3,none⟩ (.slice A6 (J+1) c6)) (some H):=fX (World.grownBy.refl w6 _) (.inl rfl) _;have ah:(Value.slice A6 (J+1) c6).ownBlock≠some H:=by intro e;have:=(F.lt H e).1;omega
  have GF:=il F Z ah;refine⟨rfl,.slice A6 (J+1) c6,KF,?_,?_,?_⟩
  ·rw[List.length_append,ac.out,List.flatMap_append];exact GF
  ·have h0:iT (fun i=>i=H\/v.ownBlock=some i) w ((w.alloc (.cells #[.string nm,.string D,.int .i64 z] 49)).drew):=(iT.refl _ w).below (bR.alloc lr _).drew;exact(h0.grown K (fun g U=>.inl (.inr U))).grown Z (fun g U=>by injection U with U;exact .inl (.inl U.symm))
  ·rcases Y with h | h
   ·exact .inl h
   ·right;exact⟨_,h,by simp⟩
theorem Hx (a b:Int)(ha:iY a)(hb:iY b)(kb U:Nat)(v:Value)(A:OA)(c:Nat)(l:List jH)(w:World)(hk:fV w kb (WT a b (.map (some U)) v))(hm:ki w U [])(aa:U<kb)(hr:Rd w 5 A l.length (l.flatMap jH.cells))(hl:l.length<=100000)(hz:∀ k∈l,k.small):Calls prog 24 #[.pointer (some ⟨kb,0,none⟩),.slice A l.length c] w fun e w'=>e=.returned (.tuple #[])/\∃ ms,ki w' U ms/\jY a b l ms/\w.grownBy w' (some U):=by
 obtain⟨ad,az,ax⟩:=SW ha;obtain⟨au,aC,am⟩:=SW hb;have ab:Hid (∀ W,Calls prog 40 #[.int .i64 a] W fun e w'=>e=.returned (.int .i64 (FK a:Int))/\W=w'):=by intro W;rw[<-ad];exact vR a W
 have ai:Hid (∀ W,Calls prog 40 #[.int .i64 b] W fun e w'=>e=.returned (.int .i64 (FK b:Int))/\W=w'):=by intro W;rw[<-au];exact vR b W
 have aj:=fH ax;have R:=fH am;obtain⟨KA,aq⟩:∃ KA,FK a=KA:=⟨_,rfl⟩
 obtain⟨KB,ag⟩:∃ KB,FK b=KB:=⟨_,rfl⟩
 rw[aq] at ab aj az;rw[ag] at ai R aC;have bA:(KA:Int)<4:=by omega
 have bB:(KB:Int)<4:=by omega
 have HK:=fH hk;have HM:=fH hm;have HR:=fH hr;have HZ:=fH hz;have HB:=fH hb;have aA:=fH aa;clear hk hm hr hz ha hb ad au ax am aq ag aa;go_in;go_wp2;go_loopw [11] (fun s wr=>∃ (k:Nat) (ms:List oq),k<=l.length/\s=.int .i64 k/\Hid (ki wr U ms)/\Hid (jY a b (l.take k) ms)/\Hid (w.grownBy wr (some U))) (fun i _=>l.length-(intOf i).toNat)
 case atStart=>exact⟨0,[],z0,rfl,HM,jY.nil a b,World.grownBy.refl w _⟩
 case round=>
  obtain⟨k,ms,hk,rfl,M0,L0,G0⟩:=hrel;by_cases ae:k<l.length
  ·obtain⟨x,hx⟩:∃ x,l[k]?=some x:=⟨_,gG ae⟩
   have HX:=fH (HZ x (gM hx));have HT:=fH (gC hx);have R0:=fH (acH HR (by decide) HM G0);have K0:=fH (HK.grownQ G0 (by intro e;injection e with e;have:=aA.out;omega));obtain⟨bb,off,hA,he⟩:=R0.elem J2 k x hx;obtain⟨e0,e1,e2,e3,e4⟩:=rF he;simp only[Nat.add_zero] at e0;have ay:=fun W=>gi (T:=23) (E:=64) (sz:=5) (c:=c) underlying23 rfl sizeOf64 hA ae W;clear hx hA he;obtain⟨W1,I⟩:∃ W1,wr.alloc (.cells #[.string x.path,.string x.s0,.string x.s1,.string x.s2,.string x.s3] 64)=W1:=⟨_,rfl⟩
   have B1:Hid (Bw wr W1):=by show Below _ _ _;rw[<-I];exact bR.alloc lr _
   have X1:Hid (fV W1 wr.heap.size x.cells):=by show fV _ _ _;rw[<-I];exact fV.new wr x.cells _
   have K1:=fH (K0.below B1);have M1:=fH (M0.below B1);have aB:=fH I;clear I;go_upto_region 3 with(fail)
   rw[aB.out];clear e0 e1 e2 e3 e4 ay;have c1:=K1.cell 1 _ rfl;have xB:=X1.cell (1+KB) _ (R x);go_cut [28] (fun s wx=>s=.bool (!wP b (x.sum (lH b)))/\Hid (Bw W1 wx))
   case first=>
    go_region_held3 (fun w'=>w'.cell? ⟨kb,1,none⟩=some (.int .i64 b)/\w'.cell? ⟨wr.heap.size,1+KB,none⟩=some (.string (x.sum (lH b))))
     (first
       | exact⟨c1,xB⟩
       | exact⟨K2.cell 1 _ rfl,X2.cell (1+KB) _ (R x)⟩
       | go_keep)
     (first
       | (go_at_call 40;refine mb (ai _) ?_;rintro w2 rfl)
       | (go_at_call 39;refine mb (zR b HB (x.sum (lH b)) _ (by have:=HX.sum (lH b);omega)) ?_;rintro w2 O
          have Y:=fH O;have K2:=fH (K1.drew.below O);have X2:=fH (X1.drew.below O)))
    all_goals
     go_wp2;go_meet;exact⟨rfl,(Below.refl _ W1).drew.trans Y.out⟩
   case rest=>
    obtain⟨rfl,Y⟩:=hcut;obtain⟨F,ak⟩:∃ F,wc=F:=⟨_,rfl⟩
    rw[ak] at Y |-;clear ak c1 xB;have K2:=fH (K1.below Y);have X2:=fH (X1.below Y);have M2:=fH (M1.below Y);have G2:=fH (iu (iu G0 B1) Y);clear K1 X1 M1;obtain⟨sb,X⟩:∃ sb,wP b (x.sum (lH b))=sb:=⟨_,rfl⟩
    have af:=fH X;rw[X];clear X;cases sb
    ·have LN:Hid (jY a b (l.take (k+1)) ms):=by show jY _ _ _ _;rw[HT.out];exact L0.skip af.out
     go_wp2;go_roundw
     case rel=>exact⟨k+1,ms,by omega,by go_num,M2,LN,G2⟩
     case measure=>simp[intOf];omega
    ·have c0:=K2.cell 0 _ rfl;have x0:=X2.cell 0 _ rfl;have xA:=X2.cell (1+KA) _ (aj x);go_upto_region 4 with(fail)
     go_cut [6] (fun s6 wx=>s6=.pointer (some ⟨F.heap.size,0,none⟩)/\Hid (Bw F wx)/\Hid (fV wx F.heap.size [.string x.path,.string (x.sum (lH a))]))
     case first=>
      go_region_held3 (fun w'=>w'.cell? ⟨kb,0,none⟩=some (.int .i64 a)/\w'.cell? ⟨wr.heap.size,0,none⟩=some (.string x.path)/\w'.cell? ⟨wr.heap.size,1+KA,none⟩=some (.string (x.sum (lH a))))
       (first
         | exact⟨c0,x0,xA⟩
         | go_keep)
       (first
         | (go_at_call 40;refine mb (ab _) ?_;rintro w2 rfl))
      all_goals
       go_wp2;go_meet;refine⟨rfl,?_,?_⟩
       ·exact(Below.refl _ F).drew.alloc lr _
       ·exact fV.new F.drew [.string x.path,.string (x.sum (lH a))] _
     case rest=>
      obtain⟨rfl,B3,J⟩:=hcut;obtain⟨D,ap⟩:∃ D,wc=D:=⟨_,rfl⟩
      rw[ap] at B3 J |-;clear ap c0 x0 xA;have K3:=fH (K2.below B3);have X3:=fH (X2.below B3);have M3:=fH (M2.below B3);have G3:=fH (iu G2 B3);clear K2 X2 M2;obtain⟨H,V⟩:∃ H,x.sum (lH a)=H:=⟨_,rfl⟩
      have K:=fH V;rw[V] at J;clear V;obtain⟨fd,M⟩:∃ fd,kC ms x.path H=fd:=⟨_,rfl⟩
      have al:=fH M;have l1:=(M3.below (Below.refl _ D).drew).look_ok x.path H;have l2:=(M3.below ((Below.refl _ D).alloc lr (.cells #[.string ⟨#[]⟩,.string ⟨#[]⟩,.string ⟨#[]⟩,.string ⟨#[]⟩,.string ⟨#[]⟩] 64)).drew).look_ok x.path H;rw[M] at l1 l2;clear M;obtain⟨fb,Z⟩:∃ fb,fd.isSome=fb:=⟨_,rfl⟩
      have ao:=fH Z;obtain⟨kz,ar⟩:∃ kz,fd.getD ZW=kz:=⟨_,rfl⟩
      rw[Z,ar] at l1 l2;clear Z ar;unfold KX jH.val at l1 l2;have k2:=K3.cell 2 _ rfl;have d0:=J.cell 0 _ rfl;have d1:=J.cell 1 _ rfl;have n0:=fun o=>(World.cell?_alloc_lt D o ⟨F.heap.size,0,none⟩ J.sz).trans d0;have n1:=fun o=>(World.cell?_alloc_lt D o ⟨F.heap.size,1,none⟩ J.sz).trans d1;have n2:=fun o=>(World.cell?_alloc_lt D o ⟨kb,2,none⟩ K3.sz).trans k2;go_upto_region 5 with(fail)
      go_cut [8] (fun s8 wx=>s8=.bool fb/\Hid (Bw D wx))
      case first=>
       go_region
       all_goals
        go_wp2;go_meet;exact⟨rfl,(Below.refl _ D).drew.alloc lr _⟩
      case rest=>
       obtain⟨rfl,B4⟩:=hcut;obtain⟨W4,ah⟩:∃ W4,wc=W4:=⟨_,rfl⟩
       rw[ah] at B4 |-;clear ah k2 d0 d1 l1 l2 n0 n1 n2;have K4:=fH (K3.below B4);have X4:=fH (X3.below B4);have M4:=fH (M3.below B4);have C4:=fH (J.below B4);have G4:=fH (iu G3 B4);clear K3 X3 M3 J;cases fb
       ·have k2:=K4.cell 2 _ rfl;have d0:=C4.cell 0 _ rfl;have d1:=C4.cell 1 _ rfl;obtain⟨y0,y1,y2,y3,y4⟩:=rF X4.cell;have hn:kC ms x.path H=none:=by
         have:=ao.out;rw[<-al.out] at this;cases e:kC ms x.path H with
         | none=>rfl
         | some z=>rw[e] at this;cases this
        obtain⟨w5,an,ac,av,_⟩:=(M4.below (Below.refl _ W4).drew).put x.path H x hn;have M5:=fH ac;have G5:=fH (fN (jS G4 1) av);have LN:Hid (jY a b (l.take (k+1)) (ms++[(x.path,H,x)])):=by show jY _ _ _ _;rw[HT.out,<-K.out];exact L0.put af.out
        unfold KX jH.val at an;clear ac av hn;go_wp2;go_upto_region 7 with(fail)
        go_region
        all_goals
         go_wp2;go_roundw
         case rel=>exact⟨k+1,_,by omega,by go_num,M5,LN,G5⟩
         case measure=>simp[intOf];omega
       ·have LN:Hid (jY a b (l.take (k+1)) ms):=by show jY _ _ _ _;rw[HT.out];exact L0.there (by rw[K.out,al.out,ao.out])
        go_wp2;go_roundw
        case rel=>exact⟨k+1,ms,by omega,by go_num,M4,LN,G4⟩
        case measure=>simp[intOf];omega
  ·go_wp2;go_end0;refine⟨rfl,ms,M0,?_,G0⟩;have:=L0.out;rw[tL (by omega)] at this;exact this
theorem wM (p D F z H:BA)(w:World):(Instr.field 64 (.agg #[.string p,.string D,.string F,.string z,.string H]) 1).run prog w=.ok (.agg #[.string D,.string F,.string z,.string H]) w:=by kernel_rfl
theorem wN (H D z F:BA)(w:World):
  (Instr.index 62 (.agg #[.string H,.string D,.string z,.string F]) (.int .i64 1)).run prog w=.ok (.string D) w /\
  (Instr.index 62 (.agg #[.string H,.string D,.string z,.string F]) (.int .i64 2)).run prog w=.ok (.string z) w /\
  (Instr.index 62 (.agg #[.string H,.string D,.string z,.string F]) (.int .i64 3)).run prog w=.ok (.string F) w:=⟨by kernel_rfl,by kernel_rfl,by kernel_rfl⟩
theorem FY {a:Int}{kn:List jH}{f:fW}(h:f.kind≠1\/a=b):mZ a b kn f=f.sum:=by unfold mZ;rw[if_pos h]
theorem Ry {a:Int}{kn:List jH}{ms:List oq}(D:jY a b kn ms){f:fW}(z:f.kind=1)(F:a≠b):mZ a b kn f=((kC ms f.path f.sum).getD ZW).sum (lH b):=by
 unfold mZ;rw[if_neg (by rintro(x | x);exact x z;exact F x),D f.path f.sum];cases mo a b kn f.path f.sum with
 | some k=>rfl
 | none=>
  show(⟨#[]⟩:BA)=ZW.sum (lH b);unfold jH.sum ZW
  (repeat' split)<;>rfl
theorem Lo (b n:Int)(h:JQ b=n)(W:World):Calls prog 40 #[.int .i64 b] W fun e w'=>e=.returned (.int .i64 n)/\w'=W:=by
 rw[<-h];exact(vR b W).mono fun _ _ ⟨z,D⟩=>⟨z,D.symm⟩
theorem zZ (a b:Int)(hb:iY b)(kb mb:Nat)(v:Value)(kn:List jH)(ms:List oq)(hL:jY a b kn ms)(f:fW)(w:World)(hk:fV w kb (WT a b (.map (some mb)) v))(hm:ki w mb ms):Calls prog 51 #[.pointer (some ⟨kb,0,none⟩),f.val] w fun e w'=>e=.returned (.string (mZ a b kn f))/\Bw w w':=by
 obtain⟨J,U⟩:∃ J,w.alloc (.cells #[.string f.path,.int .i64 f.kind,.int .i64 f.mode,.string f.owner,.string f.group,.string f.link,.string f.sum,.bool f.conf] 57)=J:=⟨_,rfl⟩
 have R:Hid (Bw w J):=by show Below _ _ _;rw[<-U];exact bR.alloc lr _
 have M:Hid (fV J w.heap.size f.cells):=by show fV _ _ _;rw[<-U];exact fV.new w f.cells _
 have K:=fH (hk.below R);have M1:=fH (hm.below R);have O:=fH U;have HB:=fH hb;clear hk hm U hb;have f1:=M.cell 1 _ rfl;have f6:=M.cell 6 _ rfl;by_cases X:f.kind=1
 rotate_left
 ·have q1:(f.kind != 1)=true:=by simpa [bne] using X
  have E:=fH (FY (a:=a) (b:=b) (kn:=kn) (f:=f) (.inl X));clear X;unfold fW.val;go_in;go_upto_region 1 with(fail)
  rw[O.out];go_quiet (fail);go_wp2;go_ret;exact⟨by rw[E.out];rfl,gh R _⟩
 have q1:(f.kind != 1)=false:=by simp[X]
 have k0:=K.cell 0 _ rfl;have Y:=K.cell 1 _ rfl;by_cases Z:a=b
 ·have q2:(a==b)=true:=by simpa using Z
  have E:=fH (FY (a:=a) (b:=b) (kn:=kn) (f:=f) (.inr Z));clear X Z;unfold fW.val;go_in;go_upto_region 1 with(fail)
  rw[O.out];go_quiet (fail);go_wp2;go_ret;exact⟨by rw[E.out];rfl,gh R _⟩
 ·have q2:(a==b)=false:=by simpa using Z
  have E:=fH (Ry hL X Z);clear X Z;rcases HB with rfl | rfl | rfl
  ·unfold fW.val;go_in;go_upto_region 1 with(fail)
   rw[O.out];go_quiet (fail);obtain⟨I,F⟩:∃ I,J.drewN nq=I:=⟨_,rfl⟩
   have D:Hid (Bw J I):=by show Below _ _ _;rw[<-F];exact gh bR _
   rw[F];clear F f1 f6 k0 Y;have f0:=(M.below D).cell 0 _ rfl;have f6:=(M.below D).cell 6 _ rfl;have Y:=(K.below D).cell 1 _ rfl;have k2:=(K.below D).cell 2 _ rfl;have V:=fun n=>((M1.below D).below (gh (Below.refl _ I) n)).look f.path f.sum;obtain⟨z,H⟩:∃ z,(kC ms f.path f.sum).getD ZW=z:=⟨_,rfl⟩
   rw[H] at V E;clear H;unfold KX jH.val at V;have hf:=wM z.path z.s0 z.s1 z.s2 z.s3;have hi:=fun W=>(wN z.s0 z.s1 z.s2 z.s3 W).1;have B3:=fH (fM R D);clear R D M1 M K;go_upto_region 3 with(fail)
   go_quiet ((go_at_call 40;exact Calls.quiet_of_same (Lo 1 1 rfl _)));go_wp2;go_ret;exact⟨by rw[E.out];rfl,gh B3 _⟩
  ·unfold fW.val;go_in;go_upto_region 1 with(fail)
   rw[O.out];go_quiet (fail);obtain⟨I,F⟩:∃ I,J.drewN nq=I:=⟨_,rfl⟩
   have D:Hid (Bw J I):=by show Below _ _ _;rw[<-F];exact gh bR _
   rw[F];clear F f1 f6 k0 Y;have f0:=(M.below D).cell 0 _ rfl;have f6:=(M.below D).cell 6 _ rfl;have Y:=(K.below D).cell 1 _ rfl;have k2:=(K.below D).cell 2 _ rfl;have V:=fun n=>((M1.below D).below (gh (Below.refl _ I) n)).look f.path f.sum;obtain⟨z,H⟩:∃ z,(kC ms f.path f.sum).getD ZW=z:=⟨_,rfl⟩
   rw[H] at V E;clear H;unfold KX jH.val at V;have hf:=wM z.path z.s0 z.s1 z.s2 z.s3;have hi:=fun W=>(wN z.s0 z.s1 z.s2 z.s3 W).2.2;have B3:=fH (fM R D);clear R D M1 M K;go_upto_region 3 with(fail)
   go_quiet ((go_at_call 40;exact Calls.quiet_of_same (Lo 2 3 rfl _)));go_wp2;go_ret;exact⟨by rw[E.out];rfl,gh B3 _⟩
  ·unfold fW.val;go_in;go_upto_region 1 with(fail)
   rw[O.out];go_quiet (fail);obtain⟨I,F⟩:∃ I,J.drewN nq=I:=⟨_,rfl⟩
   have D:Hid (Bw J I):=by show Below _ _ _;rw[<-F];exact gh bR _
   rw[F];clear F f1 f6 k0 Y;have f0:=(M.below D).cell 0 _ rfl;have f6:=(M.below D).cell 6 _ rfl;have Y:=(K.below D).cell 1 _ rfl;have k2:=(K.below D).cell 2 _ rfl;have V:=fun n=>((M1.below D).below (gh (Below.refl _ I) n)).look f.path f.sum;obtain⟨z,H⟩:∃ z,(kC ms f.path f.sum).getD ZW=z:=⟨_,rfl⟩
   rw[H] at V E;clear H;unfold KX jH.val at V;have hf:=wM z.path z.s0 z.s1 z.s2 z.s3;have hi:=fun W=>(wN z.s0 z.s1 z.s2 z.s3 W).2.1;have B3:=fH (fM R D);clear R D M1 M K;go_upto_region 3 with(fail)
   go_quiet ((go_at_call 40;exact Calls.quiet_of_same (Lo 3 2 rfl _)));go_wp2;go_ret;exact⟨by rw[E.out];rfl,gh B3 _⟩
def gE.val (s:gE):Value:=.agg #[.int .i64 s.phase,.string s.body]
theorem yC (f:FuncId)(R:Value)(p:gE->Bool)(A:OA)(c:Nat)(l:List gE)(w:World)(X:Rd w 2 A l.length (l.flatMap gE.cells))(hl:l.length<=1000000)
  (hcall:∀ (args:Array Value)(w:World),(callFunc f args).run prog w=.ok (.enter f args) w)
  (hf:Hid (∀ g∈l,∀ W,Bw w W->Calls prog f #[g.val,R] W fun e w'=>e=.returned (.bool (p g))/\Bw W w')):Calls prog 88 #[.slice A l.length c,.func (.func f) #[] #[R]] w fun e w'=>e=.returned (.int .i64 (zL p l 0))/\Bw w w':=by
 have HR:=fH X;clear X;go_in;go_wp2;go_loopw [8] (fun i wr=>∃ k:Nat,k<=l.length/\i=.int .i64 k/\Hid (∀ y∈l.take k,p y=false)/\Hid (Bw w wr)) (fun i _=>l.length-(intOf i).toNat)
 case atStart=>exact⟨0,z0,rfl,by simp[Hid],bR⟩
 case round=>
  obtain⟨k,hk,rfl,M,H⟩:=hrel;by_cases D:k<l.length
  ·obtain⟨x,I⟩:∃ x,l[k]?=some x:=⟨_,gG D⟩
   obtain⟨b,off,V,O⟩:=(HR.below H).elem ql k x I;have U:=O 0 _ rfl;have e1:=O 1 _ rfl;simp only[Nat.add_zero] at U;have J:=fun W=>gi (T:=36) (E:=59) (sz:=2) (c:=c) underlying36 rfl sizeOf59 V D W;have Z:=fH I;have K:=fH (fun W hb=>hf.out x (gM I) W hb);unfold gE.val at K;clear I V O;go_wp2_with fail;refine mb (K _ H) ?_;rintro w1 F;have Y:=fH (fM H F);clear F U e1 J K;cases hp:p x
   ·have HP:=fH hp;clear hp;go_wp2;go_roundw
    case rel=>exact⟨k+1,by omega,by go_num,fH (fun y z=>by
     rw[gC Z.out] at z;rcases List.mem_append.1 z with z | z
     ·exact M.out y z
     ·rw[List.mem_singleton.1 z];exact HP.out),Y⟩
    case measure=>simp[intOf];omega
   ·have E:Hid (zL p l 0=k):=by show _=_;rw[yc Z.out M.out hp];omega
    clear hp;go_wp2;go_ret;exact⟨fT E.out.symm,Y⟩
  ·have E:Hid (zL p l 0=-1):=si 0 (fun y z=>M.out y (by rw[tL (by omega)];exact z));go_wp2;go_ret;exact⟨fT E.out.symm,H⟩
theorem uB (f:FuncId)(D:Value)(p:gE->Bool)(A:OA)(c:Nat)(l:List gE)(w:World)(H:Rd w 2 A l.length (l.flatMap gE.cells))(I:l.length<=1000000)
  (hcall:∀ (args:Array Value)(w:World),(callFunc f args).run prog w=.ok (.enter f args) w)
  (F:Hid (∀ g∈l,∀ W,Bw w W->Calls prog f #[g.val,D] W fun e w'=>e=.returned (.bool (p g))/\Bw W w')):Calls prog 53 #[.slice A l.length c,.func (.func f) #[] #[D]] w fun e w'=>e=.returned (.bool (l.any p))/\Bw w w':=by
 have M:=fH (yC f D p A c l w H I hcall F);have K:=fH (uZ p l 0 (by omega));generalize zL p l 0=ix at *;clear H F;go_in;go_wp2_with fail;refine M.mono ?_;rintro e O ⟨rfl,z⟩;have J:=fH z;clear z;go_wp2;go_ret;exact⟨fJ K,J⟩
theorem BT (a b:Int)(M:iY b)(m v:Value)(K s:Nat)(x:gE)(w:World)(I:fV w K (WT a b m v))(J:fV w s [.pointer (some ⟨K,0,none⟩)]):Calls prog 54 #[x.val,.pointer (some ⟨s,0,none⟩)] w fun e w'=>e=.returned (.bool (!zk b x.phase))/\Bw w w':=by
 obtain⟨D,z⟩:∃ D,w.alloc (.cells #[.int .i64 x.phase,.string x.body] 59)=D:=⟨_,rfl⟩
 have H:Hid (Bw w D):=by show Below _ _ _;rw[<-z];exact bR.alloc lr _
 have V:Hid (fV D w.heap.size [.int .i64 x.phase,.string x.body]):=by show fV _ _ _;rw[<-z];exact fV.new w [.int .i64 x.phase,.string x.body] _
 have Z:=(J.below H).cell 0 _ rfl;have X:=(I.below H).cell 1 _ rfl;have Y:=V.cell 0 _ rfl;have R:=fH fun W=>wI b x.phase M W;have F:=fH z;clear I J z M;unfold gE.val;go_in;go_upto_region 1 with(fail)
 rw[F.out];go_quiet ((go_at_call 55;exact Calls.quiet_of_same ((R _).mono fun _ _ ⟨U,O⟩=>⟨U,O.symm⟩)));go_wp2;go_ret;exact⟨rfl,gh H _⟩
end
end Go.Proofs.YtkmjcombhjombaaGreatDoor
