/- A part of the proof. -/
import Derived.Test.YtkmjcombhjombaaGreatDoorJ13
set_option maxRecDepth 100000
set_option maxHeartbeats 20000000
set_option linter.unusedVariables false
set_option linter.unusedSimpArgs false
namespace Go.Proofs.YtkmjcombhjombaaGreatDoor
variable{s x:BA}{c':Int}{l r:LU}{a b c cc deep f hi k lo lo' m n n' p':Nat}{A:OA}{W W' w w' w2 wr:World}
open Go.Proofs.Tryz
section
open Go.RowKit Go.Deep
structure Ko (w wr:World) (a:Nat) (s:BA) (k n:Nat) (c:Int) (gs:List gA) (A:OA) (m cc:Nat):Prop where
 len:gs.length=m
 row:wr.ownsRow w.heap.size 198 1 (.slice A m cc) m (gs.map gA.sl)
 grp:∀ g∈gs,g.own wr w.heap.size
 dr:DR wr a s k n c
 gr:w.grownBy wr (some a)
 lt:a<w.heap.size
theorem Ko.step {k':Nat}{c:Int}{gs:List gA}(h:Ko w wr a s k n c gs A m cc)(z:wr.grownBy w' (some a))(D:DR w' a s k' n' c'):Ko w w' a s k' n' c' gs A m cc:=
 ⟨h.len,gZ h.row h.lt z,fun t ht=>(h.grp t ht).kept h.lt z,D,fN h.gr z,h.lt⟩
theorem Ko.below {c:Int}{gs:List gA}(h:Ko w wr a s k n c gs A m cc)(z:Bw wr w'):Ko w w' a s k n c gs A m cc:=
 h.step (kS z _) (h.dr.below z)
theorem Ko.alloc {c:Int}{gs:List gA}(h:Ko w wr a s k n c gs A m cc)(o:Obj):Ko w (wr.alloc o) a s k n c gs A m cc:=h.below (bR.alloc lr o)
theorem Ko.drewN {c:Int}{gs:List gA}(h:Ko w wr a s k n c gs A m cc)(j:Nat):Ko w (wr.drewN j) a s k n c gs A m cc:=h.below ⟨rfl,rfl,rfl,lr,fun _ _=>rfl⟩
theorem gA.own.other {G:gA}{z:Nat}{v:Value}{xs:LV}(h:G.own w lo)(F:w.ownsRow lo' 198 z v n xs)(D:w.grownBy w2 v.ownBlock):G.own w2 lo:=
 ⟨gN h.row F (by decide) D,fun t ht=>gN (h.archs t ht) F (by decide) D⟩
theorem Ko.grow {c:Int}{gs:List gA}{A1:OA}{c1:Nat}{o:Obj}{G:gA}(h:Ko w wr a s k n c gs A m cc)(J:G.own wr w.heap.size)
  (I:w2.ownsRow w.heap.size 198 1 (.slice A1 (m+1) c1) (m+1) (gs.map gA.sl++[G.sl]))
  (D:(wr.alloc o).grownBy w2 (Value.slice A m cc).ownBlock):Ko w w2 a s k n c (gs++[G]) A1 (m+1) c1:=by
 have z:=h.alloc o;have F:G.own (wr.alloc o) w.heap.size:=J.below (bR.alloc lr o);refine⟨by simp[h.len],by rw[List.map_append];simpa using I,fun t ht=>?_,z.dr.kept D ?_,oJ z.gr D (fun j H=>(h.row.lt j H).1),h.lt⟩
 ·rcases List.mem_append.1 ht with ht | ht
  ·exact(z.grp t ht).other z.row D
  ·obtain rfl:=List.mem_singleton.1 ht;exact F.other z.row D
 ·intro e;have:=(h.row.lt a e.symm).1;have:=h.lt;omega
def P9 (L:List (List iU)):Nat:=(L.map List.length).sum
theorem UC (L:List (List iU))(g:List iU):P9 (L++[g])=P9 L+g.length:=by simp[P9]
theorem XE (L:List (List iU)):Bn L=true↔L.all (fun g=>g.all iU.right)=true/\P9 L<=64:=by unfold Bn P9;simp
def mP (r:Option (List (List iU)))(a:Nat)(s:BA)(w:World)(e:Ending)(w':World):Prop:=
 match r with
  | none=>w.grownBy w' (some a)/\e=.returned (.tuple #[.slice none 0 0,.bool false])/\∃ (p' n':Nat) (c':Int),DR w' a s p' n' c'
  | some L=>∃ (A:OA) (m cc:Nat) (gs:List gA) (p' n':Nat) (c':Int),e=.returned (.tuple #[.slice A m cc,.bool true])/\Ko w w' a s p' n' c' gs A m cc/\gs.map gA.pl=L/\(c'=0↔Bn L=true)
theorem mP.no {r:Option (List (List iU))}(D:r=none)(z:w.grownBy w' (some a))(h:DR w' a s p' n' c'):mP r a s w (.returned (.tuple #[.slice none 0 0,.bool false])) w':=by
 subst D;exact⟨z,rfl,p',n',c',h⟩
theorem mP.yes {r:Option (List (List iU))}{gs:List gA}(D:r=some (gs.map gA.pl))(h:Ko w w' a s p' n' c' gs A m cc)(z:c'=0↔Bn (gs.map gA.pl)=true):mP r a s w (.returned (.tuple #[.slice A m cc,.bool true])) w':=by
 subst D;exact⟨A,m,cc,gs,p',n',c',rfl,h,rfl,z⟩
theorem Qa (a:Nat)(s:BA)(w:World)(hs:s.size<=4294967280)(hG:yY a w)(h:DR w a s 0 0 0):Calls prog 92 #[.pointer (some ⟨a,0,none⟩)] w (mP (rN (bl s)) a s w):=by
 obtain⟨i0,au,am,az,aq⟩:=info_parts Mz;have HG:=fH hG;obtain⟨q,hq⟩:∃ q,0+fS gT ((bl s).drop 0)=q:=⟨_,rfl⟩
 have hB:=gy a s 0 0 0 w hs h;rw[hq] at hB;have SK:Hid (gm (bl s)=(bl s).drop q):=by have:=jh s 0;rw[hq,List.drop_zero] at this;exact this
 have ak:=h.sz;generalize ae:rN (bl s)=RR;go_in;go_wp2_with fail;refine hB.mono ?_;rintro e w1 ⟨rfl,D,I⟩;have S1:Hid (Ko w w1 a s q 0 0 [] none 0 0):=⟨rfl,World.ownsRow_nil _ _ _ _,by simp,D,I,ak⟩
 have ar:=D.le;obtain⟨f1,y1,k1⟩:=D.cells;have c0:=k1.c0;have c1:=k1.c1;by_cases ai:q=s.size
 ·have J:Hid (RR=some (([]:List gA).map gA.pl)):=by
   show _=_;rw[<-ae];unfold rN;rw[SK.out,rP s q (by omega)];rfl
  subst ai;go_wp2;go_quiet (fail);go_wp2;go_ret2;exact mP.yes J (S1.drewN _) (by simp[Bn])
 ·have aa:q<s.size:=by omega
  have E0:Hid (RR=kR (s.size+1) [] ((bl s).drop q)):=by
   show _=_;rw[<-ae];unfold rN;rw[SK.out,<-De,fI,if_neg];rw[kL s q aa];simp
  have aE:((q:Int)==(s.size:Int))=false:=by simp;omega
  have ap:Hid (s.size-q<=s.size):=by show _<=_;omega
  go_wp2;go_quiet (fail);have M:=fH (S1.drewN nq);go_wp2;go_loopw [2,3,4] (fun s2 s3 l wr=>∃ (k m cc f K:Nat) (c':Int) (H:List gA) (A:OA),s2=.slice none 0 0/\s3=.bool false/\l=.slice A m cc/\k<=s.size/\m<=k/\Hid (Ko w wr a s k K c' H A m cc)/\Hid (RR=kR (f+1) (H.map gA.pl) ((bl s).drop k))/\Hid (s.size-k<=f)/\Hid (K=P9 (H.map gA.pl))/\Hid (c'=0↔(H.map gA.pl).all (fun g=>g.all iU.right)=true/\K<=64)) (fun _ _ _ wr=>s.size-Kg a wr)
  case atStart=>exact⟨q,0,0,s.size,0,0,[],none,rfl,rfl,rfl,ar,z0,M,E0,ap,rfl,by show _↔_;simp⟩
  case round=>
   obtain⟨k,m,cc,f,K,c',H,A,rfl,rfl,rfl,hk,aD,Y,HE,HF,HN,HC⟩:=hrel;have an:Hid (c'=0->K<=64):=by have:=HC.out;show _->_;intro h;exact(this.1 h).2
   have ao:Hid (s.size-k<((bl s).drop k).length+1):=by show _<_;rw[List.length_drop,fI];omega
   go_wp2_with fail;refine(P8 _ a s k K c' wr hs ao (HG.kept Y.gr) Y.dr an).mono ?_;rintro e w2 ⟨I,z⟩;cases ht:ld (((bl s).drop k).length+1) ((bl s).drop k) with
   | none=>
    rw[ht] at z;obtain⟨rfl,F,m',O,D⟩:=z;have M:=fH (Y.step I D);have J:Hid (RR=none):=by show _=_;rw[HE.out];exact GP ht
    go_wp2;go_ret2;exact mP.no J M.gr M.dr
   | some x=>
    obtain⟨g,r⟩:=x;rw[ht] at z;obtain⟨G,F,O,rfl,X,ah,D,ay,aB,ax⟩:=z;have M:=fH (Y.step I D);have al:=fH (ah.base (lo':=w.heap.size) Y.gr.size);have aC:=D.le;have N2:Hid (K+g.length=P9 ((H++[G]).map gA.pl)):=by
     have:=HN.out;show _=_;rw[List.map_append,List.map_cons,List.map_nil,UC,X];omega
    have C2:Hid (O=0↔((H++[G]).map gA.pl).all (fun g=>g.all iU.right)=true/\K+g.length<=64):=by
     have h1:=HC.out;show _↔_;rw[ax,h1,List.map_append,List.all_append];simp only[List.map_cons,List.map_nil,List.all_cons,List.all_nil,Bool.and_true,Bool.and_eq_true,X];constructor
     ·rintro⟨⟨a1,a2⟩,a3,a4⟩;exact⟨⟨a1,a3⟩,a4⟩
     ·rintro⟨⟨a1,a3⟩,a4⟩;exact⟨⟨a1,by omega⟩,a3,a4⟩
    have HD:=fH aB;have HT:=fH X;have V:=fH ht;have aG:m<=4294967280:=by omega
    have Z:Hid (k<F):=ay;generalize K+g.length=n2 at M N2 C2 D;obtain⟨gl,ab⟩:∃ gl,G.ts.length=gl:=⟨_,rfl⟩
    have aj:Hid (G.sl=.slice G.ga gl G.gc):=by show _=_;unfold gA.sl;rw[ab]
    rw[ab];go_wp2_with (at_builtin;refine fR _ rfl _ _ _ rfl w.heap.size 198 i0 _ 1 24 underlying83 au am az aq rfl (by omega) (.slice A m cc) m _ rfl (M.row.alloc _) (w2.heap.size+1) (some ⟨w2.heap.size,0,none⟩) 1 1 [.slice G.ga gl G.gc] rfl (me w2 _ _) (by simp[Value.oneCell']) (by simp only[maxLen];omega) (by omega) (by simp;have:=M.gr.size;omega) ?_;intro v1 w3 o1 g1 a1);obtain⟨A3,c3,rfl⟩:=gg o1;have S3:=fH (M.grow (G:=G) al (by rw[aj.out];exact o1) g1);obtain⟨f1,y1,k1⟩:=S3.dr.cells;have c0:=k1.c0;have c1:=k1.c1;by_cases av:F=s.size
    ·have J:Hid (RR=some ((H++[G]).map gA.pl)):=by
      show _=_;rw[HE.out,Ke (g:=g) (by rw[V.out,<-HD.out,rP s F (by omega)]),List.map_append];simp[HT.out]
     have CF:Hid (O=0↔Bn ((H++[G]).map gA.pl)=true):=by show _↔_;rw[C2.out,XE,N2.out]
     subst av;go_wp2;go_quiet (fail);go_wp2;go_ret2;exact mP.yes J (S3.drewN _) CF.out
    ·have aF:((F:Int)==(s.size:Int))=false:=by simp;omega
     have RE:Hid (r.isEmpty=false):=by show _=_;rw[<-HD.out,kL s F (by omega)];rfl
     go_wp2;go_quiet (fail);have S4:=fH (S3.drewN nq);cases hb:fY 44 ((bl s).drop F) with
     | false=>
      have HB:=fH hb;have J:Hid (RR=none):=by show _=_;rw[HE.out];exact Kf V RE (by rw[<-HD.out];exact hb)
      go_wp2_with fail;refine(gt 44 a s F _ O _ hs S4.dr HB).mono ?_;rintro e w4 ⟨rfl,D,I⟩;have S5:=fH (S4.step I D);go_wp2;go_ret2;exact mP.no J S5.gr S5.dr
     | true=>
      have HB:=fH hb;obtain⟨R,ac⟩:∃ R,F+1+fS gT ((bl s).drop (F+1))=R:=⟨_,rfl⟩
      have J:Hid (RR=kR (f-1+1) ((H++[G]).map gA.pl) ((bl s).drop R)):=by
       have hf:=HF.out;have h2:=Z.out;show _=_;rw[HE.out,GQ V.out (by rw[<-HD.out];exact hb),<-HD.out,List.drop_drop,jh,ac,List.map_append,show f-1+1=f by omega];simp[HT.out]
      have af:=fH (fun (W:World) (hD:DR W a s (F+1) n2 O)=>gy a s (F+1) n2 O W hs hD);rw[ac] at af;have U:Hid (k<R):=by have:=Z.out;show _<_;omega
      have aA:Hid (s.size-R<=f-1):=by have:=HF.out;have:=U.out;show _<=_;omega
      have ad:m+1<=R:=by have:=U.out;omega
      go_wp2_with fail;refine(gK 44 a s F _ O _ hs S4.dr HB).mono ?_;rintro e w4 ⟨rfl,D,I⟩;have S5:=fH (S4.step I D);go_wp2_with fail;refine(af w4 S5.dr).mono ?_;rintro e w5 ⟨rfl,D,I⟩;have S6:=fH (S5.step I D);have ag:=S6.dr.le;go_wp2;go_roundw
      case rel=>exact⟨R,m+1,c3,f-1,n2,O,H++[G],A3,rfl,rfl,rfl,ag,ad,S6,J,aA,N2,C2⟩
      case measure=>exact DR.dec S6.dr Y.dr U.out
def DA (gs:List gA):Prop:=∀ g∈gs,∀ t∈g.ts,t.archs.length<=t.ac
theorem UD {gs:List gA}(z:∀ g∈gs,g.own w lo):DA gs:=fun g D t ht=>tW ((z g D).archs t ht)
structure lf (w:World) (lo:Nat) (A:OA) (n c:Nat) (gs:List gA):Prop where
 len:gs.length=n
 row:w.ownsRow lo 198 1 (.slice A n c) n (gs.map gA.sl)
 grp:∀ g∈gs,g.own w lo
theorem lf.ok {gs:List gA}(h:lf w lo A n c gs):rQ w A gs:=
 ⟨by rw[h.len];exact gR h.row,fun g z=>gR (h.grp g z).row,fun g z t ht=>gR ((h.grp g z).archs t ht)⟩
theorem lf.cap {gs:List gA}(h:lf w lo A n c gs):DA gs:=UD h.grp
theorem lf.kept {g:Nat}{gs:List gA}(h:lf w lo A n c gs)(D:g<lo)(z:w.grownBy w' (some g)):lf w' lo A n c gs:=⟨h.len,gZ h.row D z,fun x F=>(h.grp x F).kept D z⟩
theorem lf.below {gs:List gA}(h:lf w lo A n c gs)(z:Bw w w'):lf w' lo A n c gs:=⟨h.len,ge h.row z,fun x D=>(h.grp x D).below z⟩
def Qb (r:Option (List (List iU)))(w:World)(e:Ending)(w':World):Prop:=
 ∃ (A:OA) (n c:Nat) (f:BA) (a code:Int),e=.returned (.tuple #[.slice A n c,lF f a code])/\Bw w w' /\
  (match r with
   | some L=>code=0/\∃ gs:List gA,gs.map gA.pl=L/\lf w' w.heap.size A n c gs
   | none=>code≠0/\A=none/\n=0)
theorem MB (h:rN l=none):jV l=none:=by unfold jV;rw[h]
theorem Qc {L:List (List iU)}(h:rN l=some L)(z:¬ Bn L=true):jV l=none:=by unfold jV;rw[h];simp[z]
theorem ME {L:List (List iU)}(h:rN l=some L)(z:Bn L=true):jV l=some L:=by unfold jV;rw[h];simp[z]
theorem DB (s:BA)(w:World)(hG:Gl w)(hs:s.size<=4294967280):Calls prog 58 #[.string s] w (Qb (jV (bl s)) w):=by
 obtain⟨J,F⟩:∃ J,(w.alloc (.cells #[.string ⟨#[]⟩,.int .i64 0,.int .i64 0] 132)).alloc (.cells #[.string s,.int .i64 0,.int .i64 0,.string ⟨#[]⟩,.int .i64 0,.int .i64 0] 176)=J:=⟨_,rfl⟩
 have B1:Hid (Bw w J):=by rw[<-F];exact(bR.alloc lr _).alloc (by simp) _
 have K1:Hid (fV J w.heap.size [.string ⟨#[]⟩,.int .i64 0,.int .i64 0]):=by rw[<-F];exact(fV.new w [.string ⟨#[]⟩,.int .i64 0,.int .i64 0] _).alloc _
 have D1:Hid (DR J (w.heap.size+1) s 0 0 0):=by
  refine⟨⟨⟨#[]⟩,0,?_⟩,z0,lr⟩;have:=fV.new (w.alloc (.cells #[.string ⟨#[]⟩,.int .i64 0,.int .i64 0] 132)) [.string s,.int .i64 0,.int .i64 0,.string ⟨#[]⟩,.int .i64 0,.int .i64 0] 176;rw[<-F];simpa using this
 have HG:Hid (yY (w.heap.size+1) J):=⟨w,hG,B1,Nat.le_succ _⟩
 have D:w.heap.size<J.heap.size:=K1.sz;clear hG;go_in;go_wp2_with fail;clear F;refine(Qa (w.heap.size+1) s J hs HG D1).mono ?_;rintro e w2 z;cases hf:rN (bl s) with
 | none=>
  rw[hf] at z;obtain⟨U,rfl,p',n',O,hd⟩:=z;have R:=fH (MB hf);have H:=fH (K1.grownBy U (by intro e;injection e with e;omega));have B2:=fH (kP B1 U (Nat.le_succ _));obtain⟨f,y,k⟩:=hd.cells;have c1:=k.c1;obtain⟨Z,Y,r2⟩:=qj H.cell;have ab:=H.free 0 (by simp);have aa:=H.free 1 (by simp);have ac:=H.free 2 (by simp);clear hf U hd k;go_wp2;go_region;go_wp2_with fail;refine bodyPost_ret (v:=.tuple #[.slice none 0 0,.agg #[.string ⟨#[]⟩,.int .i64 p',.int .i64 3]]) (by simp[results,results58,go_sem,Z,Y,r2]) rfl ?_;refine⟨none,0,0,⟨#[]⟩,p',3,rfl,?_,by rw[R.out];exact⟨by decide,rfl,rfl⟩⟩;exact(fO (fO (fO B2 lr _) lr _) lr _).drew
 | some L=>
  rw[hf] at z;obtain⟨A,m,cc,gs,p',n',O,rfl,K,hL,I⟩:=z;have HS:=fH K;have H:=fH (K1.grownBy K.gr (by intro e;injection e with e;omega));have B2:=fH (kP B1 K.gr (Nat.le_succ _));obtain⟨f,y,k⟩:=K.dr.cells;have c3:=k.c3;have c4:=k.c4;have c5:=k.c5;obtain⟨Z,Y,r2⟩:=qj H.cell;have ab:=H.free 0 (by simp);have aa:=H.free 1 (by simp);have ac:=H.free 2 (by simp);by_cases M:O=0
  ·have R:=fH (ME hf (I.1 M));have HL:=fH hL;subst M;have V:=K.len;have X:w.heap.size<=J.heap.size:=Nat.le_of_lt D;have F3:Hid (lf (((w2.setCell ⟨w.heap.size,0,none⟩ (.string ⟨#[]⟩)).setCell ⟨w.heap.size,1,none⟩ (.int .i64 0)).setCell ⟨w.heap.size,2,none⟩ (.int .i64 0)) w.heap.size A m cc gs):=by
    refine⟨V,?_,?_⟩
    ·exact gF (gZ (gZ (gZ K.row D (gU _)) D (gU _)) D (gU _)) X
    ·exact fun g U=>((((K.grp g U).kept D (gU _)).kept D (gU _)).kept D (gU _)).base X
   clear hf hL I k K V;go_wp2_with fail;refine bodyPost_ret (v:=.tuple #[.slice A m cc,.agg #[.string ⟨#[]⟩,.int .i64 0,.int .i64 0]]) (by simp[results,results58,go_sem,Z,Y,r2]) rfl ?_;refine⟨A,m,cc,⟨#[]⟩,0,0,rfl,?_,?_⟩
   ·exact fO (fO (fO B2 lr _) lr _) lr _
   ·rw[R.out];exact⟨rfl,gs,HL,F3⟩
  ·have R:=fH (Qc hf (fun h=>M (I.2 h)));have HC:=GG.mk M;have ad:(O != 0)=true:=by simp[M]
   clear hf hL I k K M;go_wp2;go_region;go_wp2_with fail;refine bodyPost_ret (v:=.tuple #[.slice none 0 0,.agg #[.string f,.int .i64 y,.int .i64 O]]) (by simp[results,results58,go_sem,Z,Y,r2]) rfl ?_;refine⟨none,0,0,f,y,O,rfl,?_,by rw[R.out];exact⟨HC.out,rfl,rfl⟩⟩;exact(fO (fO (fO B2 lr _) lr _) lr _).drew
theorem XG (k:Nat)(z:k<6):bl (LJ k)=Mm k:=by
 rcases(by omega:k=0\/k=1\/k=2\/k=3\/k=4\/k=5) with rfl | rfl | rfl | rfl | rfl | rfl<;>rfl
theorem So (k:Nat):(Mm k).length<=2:=by unfold Mm;split<;>simp
def vG (q:LU):LU:=if q.isEmpty then [] else 58::q
def GZ (op:Nat)(v:LU):LU:=if op=0 then [] else [32,40]++Mm op++[32]++v++[41]
def DH (a:List (LU)):LU:=if a.isEmpty then [] else [32,91]++Lib.join a [32]++[93]
theorem DI (t:iU):t.text=t.name++vG t.qual++GZ t.op t.ver++DH t.archs:=rfl
theorem MI (op:Nat)(v:LU):(GZ op v).length<=v.length+6:=by
 have:=So op;unfold GZ;split<;>simp;omega
theorem UG (a:List (LU))(h:∀ x∈a,x.length<=33)(z:a.length<=1000000):(DH a).length<=34000003:=by
 have:=pQ [32] 33 a h;unfold DH;split
 ·simp
 ·simp at this |-;omega
theorem UH (t:iK)(h:t.okT)(w:World)(hG:Gl w)(hr:Rd w 1 t.aa t.archs.length (strCells t.archs))(M:t.archs.length<=t.ac):Calls prog 192 #[t.val] w fun e w'=>e=.returned (.string (gX t.pl.text))/\Bw w w':=by
 rw[DI];unfold iK.val iK.pl;obtain⟨h1,h2,h3,h4,h5,h6,h7,h8,h9,U,af⟩:=h;have HG:=fH hG;have HR:=fH hr;have HZ:=fH U;have HQ:=fH h2;clear hG hr h1 h2 h3 U h5 h6;obtain⟨nm,op,ver,z,aa,ac,archs⟩:=t;simp only at *;have JL:Hid ((Lib.join (archs.map bl) [32]).length<=34000000):=by
  have:=pQ [32] 33 (archs.map bl) (fun x hx=>by obtain⟨y,hy,rfl⟩:=List.mem_map.1 hx;rw[fI];exact HZ.out y hy);rw[List.length_map] at this;show _<=_;simp at this;omega
 have HJ:=fH (fun (W:World) (hb:Bw w W)=>xG aa ac archs ⟨#[32]⟩ W (HR.below hb) M (by omega) (by have:=JL.out;rw[show bl ⟨#[32]⟩=[32] from rfl];omega));obtain⟨X,D⟩:∃ X,w.alloc (.cells #[.string nm,.int .i64 op,.string ver,.string z,.slice aa archs.length ac] 196)=X:=⟨_,rfl⟩
 have R:Hid (fV X w.heap.size [.string nm,.int .i64 op,.string ver,.string z,.slice aa archs.length ac]):=by rw[<-D];exact fV.new w _ _
 have B1:Hid (Bw w X):=by rw[<-D];exact bR.alloc lr _
 obtain⟨H,F⟩:∃ H,archs.length=H:=⟨_,rfl⟩
 rw[F] at R HJ D af;rw[F];have ad:=fH F;clear F M;obtain⟨c0,c1,c2,c3,c4,f0,f1,f2,f3,f4⟩:=R.five;clear f0 f1 f2 f3 f4;go_in;obtain⟨bq,O⟩:∃ bq,z.toList.isEmpty=bq:=⟨_,rfl⟩
 have Z:Hid (decide (z.size=0)=bq):=by show _=_;rw[<-gu,<-fK];exact O
 go_upto_if 9 with(fail)
 clear D O;go_cut [3] (fun v wx=>∃ S:BA,v=.string S/\S.size<=100/\X=wx/\Hid (bl S=bl nm++vG (bl z)))
 case first=>
  cases bq with
  | true=>
   have E:Hid (bl nm=bl nm++vG (bl z)):=by show _=_;rw[hZ z (dO Z.out)];simp[vG]
   go_wp2;go_meet;exact⟨nm,rfl,by omega,rfl,E⟩
  | false=>
   have E:Hid (bl (nm++(⟨#[58]⟩++z))=bl nm++vG (bl z)):=by
    show _=_;rw[iO,iO];unfold vG;rw[gu,Z.out];rfl
   have hz:(nm++(⟨#[58]⟩++z)).size<=100:=by rw[<-fI,iO,iO];simp[fI];have:(⟨#[58]⟩:BA).size=1:=rfl;omega
   have ae:=fH hz;clear hz;go_wp2;go_meet;exact⟨_,rfl,ae,rfl,E⟩
 case rest=>
 obtain⟨S,rfl,hS,rfl,ES⟩:=hcut;have ah:=(HG.below B1).dsg op (by omega);have ag:(LJ op).size<=2:=by rw[<-fI,XG op (by omega)];exact So _
 go_upto_if 18 with(fail)
 go_cut [3] (fun v wx=>∃ I:BA,v=.string I/\I.size<=200/\Hid (Bw w wx)/\Hid (fV wx w.heap.size [.string nm,.int .i64 op,.string ver,.string z,.slice aa H ac])/\Hid (bl I=bl S++GZ op (bl ver)))
 case first=>
  by_cases K:op=0
  ·have E:Hid (bl S=bl S++GZ op (bl ver)):=by show _=_;simp[GZ,K]
   have o1:((op:Int) != 0)=false:=by simp[K]
   clear K;go_wp2;go_meet;exact⟨S,rfl,by omega,B1,R,E⟩
  ·have o1:((op:Int) != 0)=true:=by simp[K]
   have E:Hid (bl (S++(⟨#[32,40]⟩++LJ op++⟨#[32]⟩++ver++⟨#[41]⟩))=bl S++GZ op (bl ver)):=by
    show _=_;simp only[iO];unfold GZ;rw[if_neg K,XG op (by omega)];rfl
   have hz:Hid ((S++(⟨#[32,40]⟩++LJ op++⟨#[32]⟩++ver++⟨#[41]⟩)).size<=200):=by
    show _<=_;rw[<-fI,E.out,List.length_append,fI];have:=MI op (bl ver);rw[fI] at this;omega
   have o2:(op:Int)<6:=by omega
   have o3:(0:Int)<=(op:Int):=by omega
   clear K;go_wp2;go_quiet (fail);go_wp2;go_meet;exact⟨_,rfl,hz,gh B1 _,R.drewN _,E⟩
 case rest=>
 obtain⟨I,rfl,ai,B2,K2,E2⟩:=hcut;clear R B1 c0 c1 c2 c3 c4 ah ag;have c4:=K2.five.c4;by_cases a0:H=0
 ·have E:Hid (bl I=bl nm++vG (bl z)++GZ op (bl ver)++DH (archs.map bl)):=by
   have Y:=ad.out;rw[a0] at Y;show _=_;rw[E2.out,ES.out,List.length_eq_zero_iff.1 Y];simp[DH]
  have a1:decide ((0:Int)<(H:Int))=false:=dF (by omega);have a2:decide (0<H)=false:=dF (by omega);clear a0;go_wp2;go_ret;exact⟨by rw[<-Im E.out];rfl,B2⟩
 ·have a1:decide ((0:Int)<(H:Int))=true:=dT (by omega);have a2:decide (0<H)=true:=dT (by omega);obtain⟨J,hJ⟩:∃ J,gX (Lib.join (archs.map bl) (bl ⟨#[32]⟩))=J:=⟨_,rfl⟩
  have aj:J.size<=34000000:=by rw[<-hJ,iB];exact JL.out
  have E:Hid (bl (I++(⟨#[32,91]⟩++J++⟨#[93]⟩))=bl nm++vG (bl z)++GZ op (bl ver)++DH (archs.map bl)):=by
   have Y:=ad.out;show _=_;simp only[iO];rw[E2.out,ES.out,<-hJ,iS];unfold DH;rw[if_neg (by rw[List.isEmpty_iff,List.map_eq_nil_iff];intro e;rw[e] at Y;simp at Y;omega)];rfl
  have V:=fH (HJ _ B2);rw[hJ] at V;clear a0 hJ;go_wp2_with fail;refine V.mono ?_;rintro e w2 ⟨rfl,ab⟩;have B3:Hid (Bw w w2):=fM B2 ab;clear ab;go_wp2;go_ret;exact⟨by rw[<-Im E.out];rfl,B3⟩
def xI (g:List iU):LU:=Lib.join (g.map iU.text) [32,124,32]
theorem aaj {t:iK}(h:t.okT):t.pl.text.length<=35000000:=by
 rw[DI];have J:=MI t.op (bl t.ver);have I:=UG (t.archs.map bl) (fun x H=>by obtain⟨y,D,rfl⟩:=List.mem_map.1 H;rw[fI];exact h.archz y D) (by simpa using h.few);have K:(vG (bl t.qual)).length<=33:=by have:=h.qualz;rw[<-fI] at this;unfold vG;split<;>simp;omega
 have z:=h.nmz;have F:=h.verz;rw[<-fI] at z F;simp only[List.length_append,iK.pl];omega
theorem wt (A:OA)(c:Nat)(I:List gA)(hW:vm I)(w:World)(hG:Gl w)(hr:rQ w A I)(ah:DA I):Calls prog 138 #[.slice A I.length c] w fun e w'=>e=.returned (.tuple #[.string (gX (jQ (I.map gA.pl))),.int .i64 0])/\Bw w w':=by
 obtain⟨i0,ap,al,aq,an⟩:=info_parts tJ;have HG:=fH hG;have HR:=fH hr;have HW:=fH hW;have az:=fH ah;have aH:=hW.few;have GL:Hid (∀ g∈I,(xI g.pl).length<=3000000000):=by
  intro g O;have h1:=pQ [32,124,32] 35000000 (g.pl.map iU.text) (fun x hx=>by
   obtain⟨y,hy,rfl⟩:=List.mem_map.1 hx;obtain⟨t,ht,rfl⟩:=List.mem_map.1 hy;exact aaj (hW.ok g O t ht))
  have h2:=hW.len g O;unfold xI gA.pl at *;simp only[List.length_map,List.length_cons,List.length_nil] at h1 |-;have:g.ts.length*(35000000+(0+1+1+1))<=64*35000003:=Nat.mul_le_mul h2 (by omega);omega
 clear hG hr hW ah;go_in;go_wp2_with fail;refine mb (Qe A c I HW w HG HR) ?_;rintro w0 am;have af:=fH am;clear am;go_wp2;go_loopw [5,18] (fun l i wr=>∃ (k:Nat) (R:List BA) (B:OA) (cc:Nat),k<=I.length/\l=.slice B k cc/\i=.int .i64 k/\Hid (wm w0 wr R B k cc)/\Hid (R.map bl=(I.take k).map (fun g=>xI g.pl))) (fun _ i _=>I.length-(intOf i).toNat)
 case atStart=>exact⟨0,[],none,0,z0,rfl,rfl,wm.nil w0,rfl⟩
 case round=>
  obtain⟨k,R,B,cc,hk,rfl,rfl,HS,HT⟩:=hrel;by_cases ae:k<I.length
  ·obtain⟨g,O⟩:∃ g,I[k]?=some g:=⟨_,gG ae⟩
   have M:=fH (HR.below (fM af HS.bel));obtain⟨b,off,hA,he⟩:=M.row.one k _ (DE O) ae;have ag:=fun W=>gi (T:=83) (E:=198) (sz:=1) (c:=c) underlying83 rfl sizeOf198 hA ae W;simp only[Nat.mul_one] at ag;have D:=gM O;have ay:=HW.len g D;have aD:=fH (M.grp g D);have aE:=fH (M.archs g D);have au:=fH (HW.ok g D);have av:=fH (az g D);have TK:Hid ((I.take (k+1)).map (fun g=>xI g.pl)=(I.take k).map (fun g=>xI g.pl)++[xI g.pl]):=by
    show _=_;obtain⟨ab,ad⟩:=gS O;rw[tS ab,ad];simp
   have aA:=fH (GL g D);obtain⟨gl,K⟩:∃ gl,g.ts.length=gl:=⟨_,rfl⟩
   rw[K] at he ay;have ai:=fH K;clear O hA K M D;go_wp2_with fail;clear he ag;obtain⟨Y,rfl⟩:∃ Y:World,Y=wr:=⟨_,rfl⟩
   go_loopw [8,24] (fun l q wr=>∃ (j:Nat) (ys:List BA) (C:OA) (dc:Nat),j<=gl/\l=.slice C j dc/\q=.int .i64 j/\Hid (wm Y wr ys C j dc)/\Hid (ys.map bl=(g.ts.take j).map (fun t=>t.pl.text))) (fun _ q _=>gl-(intOf q).toNat)
   case atStart=>exact⟨0,[],none,0,z0,rfl,rfl,wm.nil Y,rfl⟩
   case round=>
    obtain⟨j,ys,C,dc,hj,rfl,rfl,V,HY⟩:=hrel;by_cases ak:j<gl
    ·have ax:Hid (j<g.ts.length):=by have:=ai.out;show _<_;omega
     obtain⟨t,ht⟩:∃ t,g.ts[j]?=some t:=⟨_,gG ax⟩
     obtain⟨b2,aG,aj,ar⟩:=(aD.below V.bel).elem Cj j t ht;obtain⟨e0,e1,e2,e3,e4⟩:=rF ar;simp only[Nat.add_zero] at e0;have ao:=fun W=>gi (T:=198) (E:=196) (sz:=5) (n:=gl) (c:=g.gc) underlying198 rfl sizeOf196 aj ak W;have aC:=fH (au t (gM ht));have aB:=fH (aE t (gM ht));have aF:=fH (av t (gM ht));have TY:Hid ((g.ts.take (j+1)).map (fun t=>t.pl.text)=(g.ts.take j).map (fun t=>t.pl.text)++[t.pl.text]):=by
      show _=_;obtain⟨ab,ad⟩:=gS ht;rw[tS ab,ad];simp
     have BA:Hid (Bw Y (wr.alloc (.cells #[.string t.nm,.int .i64 t.op,.string t.ver,.string t.qual,.slice t.aa t.archs.length t.ac] 196))):=V.bel.alloc V.bel.size _;have BW:Hid (Bw w Y):=fM af HS.bel;clear ht ar aj;go_wp2_with fail;refine mb (UH t aC _ (HG.below (fM BW BA)) (aB.below BA) aF) ?_;rintro U H;obtain⟨X,Z⟩:∃ X,gX t.pl.text=X:=⟨_,rfl⟩
     rw[Z];have HX:Hid (bl X=t.pl.text):=by show _=_;rw[<-Z,iS]
     have S2:=fH ((V.below (bR.alloc lr (.cells #[.string t.nm,.int .i64 t.op,.string t.ver,.string t.qual,.slice t.aa t.archs.length t.ac] 196))).below H);clear H e0 e1 e2 e3 e4 ao Z;go_wp2_with (at_builtin;refine fR _ rfl _ _ _ rfl Y.heap.size 9 i0 _ 1 16 underlying33 ap al aq an rfl (by omega) (.slice C j dc) j _ rfl (S2.row.alloc _) (U.heap.size+1) (some ⟨U.heap.size,0,none⟩) 1 1 [.string X] rfl (me U _ _) (by simp[Value.oneCell']) (by simp only[maxLen];omega) (by omega) (by simp;have:=S2.bel.size;omega) ?_;intro v1 w3 o1 g1 a1);obtain⟨A1,c1,rfl⟩:=gg o1;have R1:=fH (S2.grow (x:=X) o1 g1);clear o1 g1 a1;go_wp2;go_roundw
     case rel=>exact⟨j+1,ys++[X],A1,c1,by omega,rfl,by go_num,R1,by show _=_;rw[TY.out,List.map_append,HY.out];simp[HX.out]⟩
     case measure=>simp[intOf];omega
    ·have EY:Hid (ys.map bl=g.pl.map iU.text):=by
      show _=_;rw[HY.out,tL (by rw[ai.out];omega)];unfold gA.pl;simp
     have F:=V.len;have J:=tW V.row;obtain⟨X,Z⟩:∃ X,gX (Lib.join (ys.map bl) (bl ⟨#[32,124,32]⟩))=X:=⟨_,rfl⟩
     have HX:Hid (bl X=xI g.pl):=by show _=_;rw[<-Z,iS,EY.out];rfl
     have HJ:=fH (fun (_:Unit)=>xG C dc ys ⟨#[32,124,32]⟩ wr (by rw[F];exact gR V.row) (by omega) (by omega) (by rw[EY.out];have:=aA.out;unfold xI at this;rw[show bl ⟨#[32,124,32]⟩=[32,124,32] from rfl];omega));rw[F,Z] at HJ;have SO:=fH (HS.below V.bel);clear J F Z;go_wp2_with fail;refine mb (HJ ()) ?_;rintro U H;have S2:=fH (SO.below H);clear H;go_wp2_with (at_builtin;refine fR _ rfl _ _ _ rfl w0.heap.size 9 i0 _ 1 16 underlying33 ap al aq an rfl (by omega) (.slice B k cc) k _ rfl (S2.row.alloc _) (U.heap.size+1) (some ⟨U.heap.size,0,none⟩) 1 1 [.string X] rfl (me U _ _) (by simp[Value.oneCell']) (by simp only[maxLen];omega) (by omega) (by simp;have:=S2.bel.size;omega) ?_;intro v1 w3 o1 g1 a1);obtain⟨A1,c1,rfl⟩:=gg o1;have R1:=fH (S2.grow (x:=X) o1 g1);clear o1 g1 a1;go_wp2;go_roundw
     case rel=>exact⟨k+1,R++[X],A1,c1,by omega,rfl,by go_num,R1,by show _=_;rw[TK.out,List.map_append,HT.out];simp[HX.out]⟩
     case measure=>simp[intOf];omega
  ·have EX:Hid (R.map bl=(I.map gA.pl).map xI):=by
    show _=_;rw[HT.out,tL (by omega)];simp
   have F:=HS.len;have J:=tW HS.row;have JL:Hid ((Lib.join (R.map bl) (bl ⟨#[44,32]⟩)).length<=140737488355328):=by
    have h1:=pQ (bl ⟨#[44,32]⟩) 3000000000 (R.map bl) (fun y hy=>by
     rw[EX.out] at hy;obtain⟨z,hz,rfl⟩:=List.mem_map.1 hy;obtain⟨g,O,rfl⟩:=List.mem_map.1 hz;exact GL.out g O)
    have h2:(bl ⟨#[44,32]⟩:LU).length=2:=rfl;rw[h2,List.length_map,F] at h1;show _<=_;omega
   have HJ:=fH (fun (_:Unit)=>xG B cc R ⟨#[44,32]⟩ wr (by rw[F];exact gR HS.row) (by omega) (by omega) JL);rw[F] at HJ;clear J JL F;go_wp2_with fail;refine mb (HJ ()) ?_;rintro U H;have ET:Hid (gX (Lib.join (R.map bl) (bl ⟨#[44,32]⟩))=gX (jQ (I.map gA.pl))):=by show _=_;rw[EX.out];rfl
   have B2:Hid (Bw w U):=fM (fM af HS.bel) H;clear H;go_wp2;go_ret2;exact⟨by rw[<-ET.out];rfl,B2⟩
def DJ (s:BA)(ok:Bool)(w:World)(e:Ending)(w':World):Prop:=
 ∃ (out:BA) (b:Bool),e=.returned (.tuple #[.string out,.bool b])/\Bw w w'/\(s.size≠0->(b=true/\out=s↔ok=true))
theorem Ha (h:jV l=none):nW l=false:=by unfold nW;rw[h];simp
theorem Hb {L:List (List iU)}(h:jV l=some L)(z:l≠[]):nW l=decide (jQ L=l):=by
 unfold nW;rw[h];simp[z]
theorem Hc (h:jL l=none):nV l=false:=by unfold nV;rw[h];simp
theorem Hd {L:List jP}(h:jL l=some L)(z:l≠[]):nV l=decide (ko L=l):=by
 unfold nV;rw[h];simp[z]
theorem zc :gX l=s↔l=bl s:=by
 constructor
 ·intro h;rw[<-h,iS]
 ·intro h;rw[h,nF]
theorem XH (h:s.size≠0):bl s≠[]:=by intro e;apply h;rw[<-fI,e];rfl
theorem vm.nil:vm []:=vm.of pR.nil
theorem rQ.nil (w:World):rQ w none []:=⟨Rd.nil _ _ _,by simp,by simp⟩
theorem DK (s:BA)(w:World)(hG:Gl w)(hs:s.size<=1000000):Calls prog 111 #[.int .i64 1,.string s] w (DJ s (nW (bl s)) w):=by
 have Y:=fH hG;have B0:Hid (Bw w (w.alloc (.cells #[.string ⟨#[]⟩,.int .i64 0,.int .i64 0] 132))):=bR.alloc lr _;have K0:Hid (fV (w.alloc (.cells #[.string ⟨#[]⟩,.int .i64 0,.int .i64 0] 132)) w.heap.size [.string ⟨#[]⟩,.int .i64 0,.int .i64 0]):=fV.new w _ _;go_in;go_wp2_with fail;refine(DB s _ (Y.below B0) (by omega)).mono ?_;rintro e w1 ⟨A,n,c,f,a,D,rfl,R,z⟩;have B1:=fH (fM B0 R);have J:=fH (K0.below R);obtain⟨r0,r1,r2⟩:=qj J.cell;have ad:=J.free 0 (by simp);have ac:=J.free 1 (by simp);have ae:=J.free 2 (by simp);have aa:w.heap.size<w1.heap.size:=J.sz;have ab:¬ w.heap.size=w1.heap.size:=by omega
 have KS:=fH (((J.set 0 (by simp) (.string f)).set 1 (by simp) (.int .i64 a)).set 2 (by simp) (.int .i64 D));have K3:=fH (KS.alloc (.cells #[.string f,.int .i64 a,.int .i64 D] 132));have BS:=fH (fO (j:=2) (fO (j:=1) (fO (j:=0) B1 lr (.string f)) lr (.int .i64 a)) lr (.int .i64 D));have V:=fH (BS.alloc BS.size (.cells #[.string f,.int .i64 a,.int .i64 D] 132));cases hp:jV (bl s) with
 | none=>
  rw[hp] at z;obtain⟨hc,rfl,rfl⟩:=z;have U:=fH (Ha hp);have af:(D==0)=false:=by simp[hc]
  unfold lF;go_wp2_with fail;refine mb (wt none c [] vm.nil _ (Y.below V) (rQ.nil _) (fun _ h=>by simp at h)) ?_;rintro w4 H;have d2:=(K3.below H).cell 2 _ rfl;have B4:=fH (fM V H);go_wp2;go_ret2;exact⟨_,false,rfl,B4,fun _=>by rw[U.out];simp⟩
 | some L=>
  rw[hp] at z;obtain⟨rfl,Z,O,M⟩:=z;have F:=sO hp (by rw[fI];exact hs);rw[<-O] at F;have HW:=fH (vm.of F);have U:Hid (s.size≠0->(gX (jQ (Z.map gA.pl))=s↔nW (bl s)=true)):=fun h0=>by rw[Hb hp (XH h0),O,decide_eq_true_iff];exact zc
  have I:w.heap.size<(w.alloc (.cells #[.string ⟨#[]⟩,.int .i64 0,.int .i64 0] 132)).heap.size:=by simp
  have K:=fH ((((M.kept I (gU (j:=0) (.string f))).kept I (gU (j:=1) (.int .i64 a))).kept I (gU (j:=2) (.int .i64 0))).below (bR.alloc lr (.cells #[.string f,.int .i64 a,.int .i64 0] 132)));obtain rfl:=M.len;have hP:=wt A c Z HW _ (Y.below V) K.ok K.cap;obtain⟨X,hX⟩:∃ X,gX (jQ (Z.map gA.pl))=X:=⟨_,rfl⟩
  rw[hX] at hP U;unfold lF;go_wp2_with fail;refine hP.mono ?_;rintro e w4 ⟨rfl,H⟩;have d2:=(K3.below H).cell 2 _ rfl;have B4:=fH (fM V H);go_wp2;go_ret2;exact⟨X,true,rfl,B4,fun h=>by have:=U.out h;simpa using this⟩
theorem DL (fmt:Int)(h1:fmt≠1)(h2:fmt≠2)(s:BA)(w:World)(hG:Mt w)(hs:s.size<=1000000):Calls prog 111 #[.int .i64 fmt,.string s] w (DJ s (nV (bl s)) w):=by
 have U:=fH hG;have q1:(fmt==1)=false:=by simp[h1]
 have q2:(fmt==2)=false:=by simp[h2]
 have B0:Hid (Bw w (w.alloc (.cells #[.string ⟨#[]⟩,.int .i64 0,.int .i64 0] 132))):=bR.alloc lr _;have K0:Hid (fV (w.alloc (.cells #[.string ⟨#[]⟩,.int .i64 0,.int .i64 0] 132)) w.heap.size [.string ⟨#[]⟩,.int .i64 0,.int .i64 0]):=fV.new w _ _;go_in;go_wp2_with fail;refine(Dy s _ (U.below B0) (by omega)).mono ?_;rintro e Z ⟨A,n,c,f,a,D,rfl,K,z⟩;have B1:=fH (fM B0 K);have J:=fH (K0.below K);obtain⟨r0,r1,r2⟩:=qj J.cell;have ae:=J.free 0 (by simp);have ad:=J.free 1 (by simp);have af:=J.free 2 (by simp);have aa:w.heap.size<Z.heap.size:=J.sz;have ac:¬ w.heap.size=Z.heap.size:=by omega
 have KS:=fH (((J.set 0 (by simp) (.string f)).set 1 (by simp) (.int .i64 a)).set 2 (by simp) (.int .i64 D));have K3:=fH (KS.alloc (.cells #[.string f,.int .i64 a,.int .i64 D] 132));have BS:=fH (fO (j:=2) (fO (j:=1) (fO (j:=0) B1 lr (.string f)) lr (.int .i64 a)) lr (.int .i64 D));have O:=fH (BS.alloc BS.size (.cells #[.string f,.int .i64 a,.int .i64 D] 132));cases hp:jL (bl s) with
 | none=>
  rw[hp] at z;obtain⟨hc,rfl,rfl⟩:=z;have M:=fH (Hc hp);have ag:(D==0)=false:=by simp[hc]
  unfold lF;go_wp2_with fail;refine mb (wn none c [] (by simp) (by simp) _ (U.1.below O) (Rd.nil _ _ _)) ?_;rintro w4 F;have d2:=(K3.below F).cell 2 _ rfl;have Y:=fH (fM O F);go_wp2;go_ret2;exact⟨_,false,rfl,Y,fun _=>by rw[M.out];simp⟩
 | some L=>
  rw[hp] at z;obtain⟨rfl,rfl,V⟩:=z;obtain⟨H,ab⟩:=tP _ _ _ _ (by omega) hp;have M:Hid (s.size≠0->(gX (ko L)=s↔nV (bl s)=true)):=fun h0=>by rw[Hd hp (XH h0),decide_eq_true_iff];exact zc
  have I:w.heap.size<(w.alloc (.cells #[.string ⟨#[]⟩,.int .i64 0,.int .i64 0] 132)).heap.size:=by simp
  have R:=fH (ge (gZ (gZ (gZ V I (gU (j:=0) (.string f))) I (gU (j:=1) (.int .i64 a))) I (gU (j:=2) (.int .i64 0))) (bR.alloc lr (.cells #[.string f,.int .i64 a,.int .i64 0] 132)));have hP:=wn A c L H (by omega) _ (U.1.below O) (gR R);obtain⟨X,hX⟩:∃ X,gX (ko L)=X:=⟨_,rfl⟩
  rw[hX] at hP M;unfold lF;go_wp2_with fail;refine hP.mono ?_;rintro e w4 ⟨rfl,F⟩;have d2:=(K3.below F).cell 2 _ rfl;have Y:=fH (fM O F);go_wp2;go_ret2;exact⟨X,true,rfl,Y,fun h=>by have:=M.out h;simpa using this⟩
def rT (fmt:Int)(bars:Bool):Nat:=if fmt=2 then 64 else if fmt=3/\bars=true then 0 else 1
def lz (fmt:Int)(bars:Bool)(f:LU->Bool)(l:List BA):Bool:=decide (l.length<=rT fmt bars)&&l.all (fun x=>f (bl x))
theorem MJ (fmt:Int)(z:Bool):rT fmt z<=64:=by unfold rT;(repeat' split)<;>omega
theorem XI {f:LU->Bool}{l:List BA}(h:l[k]?=some x)(F:(l.take k).all (fun x=>f (bl x))=true)(H:f (bl x)=true):(l.take (k+1)).all (fun x=>f (bl x))=true:=by
 obtain⟨D,z⟩:=gS h;rw[tS D,z,List.all_append,F];simp[H]
theorem XJ {f:LU->Bool}{l:List BA}(h:l[k]?=some x)(z:f (bl x)=false):l.all (fun x=>f (bl x))=false:=by
 cases ha:l.all (fun x=>f (bl x)) with
 | false=>rfl
 | true=>
  rw[List.all_eq_true] at ha;have:=ha x (gM h);rw[z] at this;cases this
theorem rU (fmt:Int)(z:Bool)(f:LU->Bool)(hf:f []=false)(A:OA)(c:Nat)(l:List BA)(w:World)(hG:Mt w)(hr:Rd w 1 A l.length (strCells l))(hn:l.length<=4294967280)
  (hC:∀ x∈l,∀ W,Mt W->Calls prog 111 #[.int .i64 fmt,.string x] W (DJ x (f (bl x)) W)):Calls prog 69 #[.int .i64 fmt,.slice A l.length c,.bool z] w fun e w'=>e=.returned (.bool (lz fmt z f l))/\Bw w w':=by
 have HG:=fH hG;have HR:=fH hr;have HC:=fH hC;have HF:=fH hf;clear hG hr hC hf;obtain⟨b2,H⟩:∃ b2,(fmt==2)=b2:=⟨_,rfl⟩
 obtain⟨b3,aa⟩:∃ b3,(fmt==3)=b3:=⟨_,rfl⟩
 have K:Hid (rT fmt z=if b2 then 64 else if b3&&z then 0 else 1):=by
  show _=_;unfold rT;rw[<-H,<-aa];simp
 have R:=MJ fmt z;obtain⟨m,hm⟩:∃ m,rT fmt z=m:=⟨_,rfl⟩
 rw[hm] at R K;have U:=fH hm;clear hm;go_in;go_upto_block 0 with(fail)
 go_cut [7] (fun v wx=>v=.int .i64 m/\w=wx)
 case first=>
  cases b2 with
  | true=>
   have E:Hid (m=64):=K.out;go_wp2;go_meet;exact⟨by rw[E.out];rfl,rfl⟩
  | false=>
   cases b3 with
   | true=>
    cases z with
    | true=>
     have E:Hid (m=0):=K.out;go_wp2;go_meet;exact⟨by rw[E.out];rfl,rfl⟩
    | false=>
     have E:Hid (m=1):=K.out;go_wp2;go_meet;exact⟨by rw[E.out];rfl,rfl⟩
   | false=>
    have E:Hid (m=1):=K.out;go_wp2;go_meet;exact⟨by rw[E.out];rfl,rfl⟩
 case rest=>
 obtain⟨rfl,rfl⟩:=hcut;clear H aa K;by_cases V:m<l.length
 ·have E:Hid (lz fmt z f l=false):=by show _=_;unfold lz;rw[U.out,dF];rfl
  have d1:decide ((m:Int)<(l.length:Int))=true:=dT (by omega);have d2:decide (m<l.length)=true:=dT V;go_wp2;go_ret;exact⟨fJ E.out.symm,bR⟩
 ·have E0:Hid (lz fmt z f l=l.all (fun x=>f (bl x))):=by show _=_;unfold lz;rw[U.out,dT];rfl
  have d1:decide ((m:Int)<(l.length:Int))=false:=dF (by omega);have d2:decide (m<l.length)=false:=dF V;go_wp2_with fail;clear d1 d2;go_loopw [6,27] (fun s6 i wr=>∃ k:Nat,s6=.bool false/\i=.int .i64 k/\k<=l.length/\Hid (Bw w wr)/\Hid ((l.take k).all (fun x=>f (bl x))=true)) (fun _ i _=>l.length-(intOf i).toNat)
  case atStart=>exact⟨0,rfl,rfl,z0,bR,rfl⟩
  case round=>
   obtain⟨k,rfl,rfl,hk,HB,Z⟩:=hrel;by_cases O:k<l.length
   ·obtain⟨x,Y⟩:∃ x,l[k]?=some x:=⟨_,gG O⟩
    obtain⟨b,off,hA,he⟩:=(HR.below HB).str k x Y;have ab:=fun W=>gi (T:=33) (E:=9) (sz:=1) (c:=c) underlying33 rfl sizeOf9 hA O W;simp only[Nat.mul_one] at ab;have hW:=HC.out x (gM Y);have NY:Hid (f (bl x)=true->(l.take (k+1)).all (fun x=>f (bl x))=true):=fun h=>XI Y Z h;have NN:Hid (f (bl x)=false->lz fmt z f l=false):=fun h=>by rw[E0.out];exact XJ Y h
    clear Y hA;go_wp2_with fail;refine(hW _ (HG.below HB)).mono ?_;rintro e w2 ⟨I,ok,rfl,H,D⟩;have B2:=fH (fM HB H);clear H;by_cases x0:x.size=0
    ·have X:x.toList=[]:=by rw[fK,hZ x x0]
     have J:x.toList.isEmpty=true:=by rw[X];rfl
     have E:Hid (lz fmt z f l=false):=NN.out (by rw[hZ x x0];exact HF.out);clear D;go_wp2;go_ret;exact⟨fJ E.out.symm,B2⟩
    have J:x.toList.isEmpty=false:=by rw[fK,gu];exact dF x0
    have X:¬ x.toList=[]:=by intro h;rw[h] at J;simp at J
    have F:=D x0;cases ok with
    | false=>
     have E:Hid (lz fmt z f l=false):=NN.out (by cases hv:f (bl x) with
      | false=>rfl
      | true=>have:=F.2 hv;cases this.1)
     clear D F;go_wp2;go_ret;exact⟨fJ E.out.symm,B2⟩
    | true=>
     by_cases M:I=x
     ·have HN:=fH (NY (F.1 ⟨rfl,M⟩));subst M;clear D F;go_wp2;go_roundw
      case rel=>exact⟨k+1,rfl,by go_num,by omega,B2,HN⟩
      case measure=>simp[intOf];omega
     ·have E:Hid (lz fmt z f l=false):=NN.out (by cases hv:f (bl x) with
       | false=>rfl
       | true=>exact absurd (F.2 hv).2 M)
      have ad:(I.toList != x.toList)=true:=by rw[bne,kY,dF M];rfl
      have ac:(I.toList==x.toList)=false:=by rw[kY,dF M]
      clear D F M;go_wp2;go_ret;exact⟨fJ E.out.symm,B2⟩
   ·have E:Hid (lz fmt z f l=true):=by show _=_;rw[E0.out];have:=Z.out;rw[tL (by omega)] at this;exact this
    go_wp2;go_ret;exact⟨fJ E.out.symm,HB⟩
def Ej (a:Nat)(w:World):Nat:=match w.cell? ⟨a,0,none⟩ with | some (.slice _ m _)=>m | _=>0
theorem PR.rest (h:PR w a hi l n m):Ej a w=m:=by
 obtain⟨b,off,c,T,p,k,_,_⟩:=h.cells;unfold Ej;rw[k.c0]
theorem PR.dec {m':Nat}{l':LU}(D:PR w' a hi l' n' m')(h:PR w a hi l n m)(z:m'<m):Ej a w'<Ej a w:=by rw[D.rest,h.rest];exact z
theorem xN (z:Array Value){s:Nat}(h:Qp W s)(O:z[4]?=some (.pointer (some ⟨s,0,none⟩)))(X:z[5]?=some (.pointer (some ⟨s+1,0,none⟩)))(J H F D I u0 u1 u2:Value)
  (hv:J.oneCell'=true/\H.oneCell'=true/\F.oneCell'=true/\D.oneCell'=true/\I.oneCell'=true/\u0.oneCell'=true/\u1.oneCell'=true/\u2.oneCell'=true):
  (results Tryz.f94 z).run prog (rB W s J H F D I u0 u1 u2)=.ok (.tuple #[.agg #[J,H,F,D,I],.agg #[u0,u1,u2]]) (rB W s J H F D I u0 u1 u2):=by
 obtain⟨M,V,x2,Y,R,K,Z,U,_,_,_,_,_,_,_,_⟩:=h;simp(maxDischargeDepth:=10) [results,results94,O,X,go_sem,M,V,x2,Y,R,K,Z,U]
theorem Sv (z:Array Value){s:Nat}(h:Qp W s)(O:z[4]?=some (.pointer (some ⟨s,0,none⟩)))(X:z[5]?=some (.pointer (some ⟨s+1,0,none⟩)))(J H F D I u0 u1 u2:Value)
  (hv:J.oneCell'=true/\H.oneCell'=true/\F.oneCell'=true/\D.oneCell'=true/\I.oneCell'=true/\u0.oneCell'=true/\u1.oneCell'=true/\u2.oneCell'=true):
  (results Tryz.f148 z).run prog (rB W s J H F D I u0 u1 u2)=.ok (.tuple #[.agg #[J,H,F,D,I],.agg #[u0,u1,u2]]) (rB W s J H F D I u0 u1 u2):=by
 obtain⟨M,V,x2,Y,R,K,Z,U,_,_,_,_,_,_,_,_⟩:=h;simp(maxDischargeDepth:=10) [results,results148,O,X,go_sem,M,V,x2,Y,R,K,Z,U]
theorem uP:rW.val=.agg #[.string ⟨#[]⟩,.string ⟨#[]⟩,.int .i64 0,.string ⟨#[]⟩,.slice none 0 0]:=rfl
theorem XZ (z:Array Value){s:Nat}(h:Qp W s)(O:z[4]?=some (.pointer (some ⟨s,0,none⟩)))(X:z[5]?=some (.pointer (some ⟨s+1,0,none⟩)))(J H F D I u0 u1 u2:Value)
  (hv:J.oneCell'=true/\H.oneCell'=true/\F.oneCell'=true/\D.oneCell'=true/\I.oneCell'=true/\u0.oneCell'=true/\u1.oneCell'=true/\u2.oneCell'=true):
  (results Tryz.f148 z).run prog (rB W s J H F D I u0 u1 u2).drew=.ok (.tuple #[.agg #[J,H,F,D,I],.agg #[u0,u1,u2]]) (rB W s J H F D I u0 u1 u2).drew:=by
 obtain⟨M,V,x2,Y,R,K,Z,U,_,_,_,_,_,_,_,_⟩:=h;simp(maxDischargeDepth:=10) [results,results148,O,X,go_sem,M,V,x2,Y,R,K,Z,U]
theorem Qr (h:w.grownBy W (some a)):w.grownBy W.drew (some a):=tU h ⟨rfl,rfl,rfl,lr,fun _ _=>rfl⟩
theorem xM.wide {row:Option Nat}(h:xM w W a hi l n m)(k:W.grownBy W' row)(D:∀ j,row=some j->w.heap.size+2<=j):xM w W' a hi l n m:=by
 have I:=h.lt;refine⟨⟨h.two.b0.grownBy k (fun e=>by have:=D _ e.symm;omega),h.two.b1.grownBy k (fun e=>by have:=D _ e.symm;omega)⟩,h.pr.grown k (fun j e=>by have:=D j e;omega),oJ h.gr k (fun j e=>by have:=D j e;omega),?_,I⟩;obtain⟨J,F,z,K⟩:=h.gl;have M:=h.pr.lt;refine⟨J,F,?_,K⟩;exact⟨k.os.trans z.os,k.tape.trans z.tape,k.output.trans z.output,Nat.le_trans z.size k.size,fun j H=>(k.block j (by have:=z.size;omega) (fun e=>by have:=D j e.symm;omega)).trans (z.block j H)⟩
theorem jR.of_group {OP:BA}{ks:List fL}{T:fL}{mm:Nat}(z:Sq mm (bl OP))(F:ks.length=mm)(D:mm≠0)(H:∀ k∈ks++[T],jR k):jR (.mk OP ⟨#[]⟩ 0 ⟨#[]⟩ A c (ks++[T])):=by
 refine .node OP A c _ (z.word D) ?_ H;rw[List.length_append,List.length_singleton,F,z.close];simpa using D
theorem Calls.int {args:Array Value}{post:Ending->World->Prop}{args':Array Value}(h:Calls prog f args w post)(e:args=args'):Calls prog f args' w post:=e ▸ h
theorem Qs {op p:LU}(h:gx op n p=true):p≠[]:=by
 unfold gx at h;split at h
 ·exact(sQ h).1
 ·rcases dO h with⟨z,D⟩ | ⟨_,_,D⟩
  ·rcases z with z | z<;>rw[D,z]<;>simp[lh,kT]
  ·rw[D];simp[AA]
def acn (f:Nat):Prop:=∀ (a hi n m deep:Nat)(l:LU)(w:World),2*l.length+1<=f->yY a w->PR w a hi l n m->n<=64->deep<=32 ->
 Calls prog 94 #[.pointer (some ⟨a,0,none⟩),.int .i64 deep] w (ju (lV f deep n l) a hi m deep n w)
def aco (f:Nat):Prop:=∀ (a hi n m deep:Nat)(l:LU)(w:World),2*l.length+2<=f->yY a w->PR w a hi l n m->n<=64->deep<32 ->
 Calls prog 148 #[.pointer (some ⟨a,0,none⟩),.int .i64 ((deep:Int)+1)] w (ju (nK f (deep+1) n [] [] l) a hi m deep n w)
theorem Ek (a b:List fL):tG (a++b)=tG a++tG b:=by rw[nZ,nZ,nZ,List.map_append]
theorem Cp {a:List fL}:tG a=[]↔a=[]:=by rw[nZ];simp
theorem El (a:List fL):(tG a).length=a.length:=by rw[nZ];simp
theorem acp {ks:List fL}{d:Nat}(h:∀ k∈ks,k.ht+1<=d):IJ ks<=d:=by
 by_cases z:ks=[]
 ·subst z;simp[IJ]
 ·obtain⟨t,ht,D⟩:=Kq z;have:=h t ht;omega
theorem acq (F:Nat)(IH:∀ f,f<F->acn f):aco F:=by
 intro a hi n m z l w hF hG h hn hd;obtain⟨i0,bc,aW,bd,aZ⟩:=info_parts uL;obtain⟨f0,rfl⟩:∃ f0,F=f0+1:=⟨F-1,by omega⟩
 obtain⟨RR,ar⟩:∃ RR,nK (f0+1) (z+1) n [] [] l=RR:=⟨_,rfl⟩
 rw[ar];have E0:Hid (RR=nK (f0+1) (z+1) n (tG []) (bl ⟨#[]⟩) l):=ar.symm;have F0:Hid (2*l.length+2<=f0+1):=hF;have aV:=fH IH;obtain⟨W1,au⟩:∃ W1,(w.alloc (.cells #[.string ⟨#[]⟩,.string ⟨#[]⟩,.int .i64 0,.string ⟨#[]⟩,.slice none 0 0] 86)).alloc (.cells #[.string ⟨#[]⟩,.int .i64 0,.int .i64 0] 132)=W1:=⟨_,rfl⟩
 have S1:Hid (xM w W1 a hi l n m):=by rw[<-au];exact xM.start hG h _ _
 have hz:W1.heap.size=w.heap.size+2:=by rw[<-au];simp
 have HZ:=fH hz;clear ar hF IH h hG hz;go_in;go_upto_region 1 with(fail)
 clear au;go_wp2;go_loopw [] (fun wr=>∃ (lc:LU) (nc mc D cc f:Nat) (H:BA) (K:List fL) (A:OA),nc<=64/\D<=64/\Hid (LC W1 wr a hi lc nc mc H K A D cc)/\Hid (xM w wr a hi lc nc mc)/\Hid (Sq D (bl H))/\Hid (RR=nK (f+1) (z+1) nc (tG K) (bl H) lc)/\Hid (2*lc.length+2<=f+1)/\Hid (f<=f0)/\Hid (nc=n+jG K)/\Hid (∀ k∈K,k.ht+(z+1)<=32)/\Hid (mc<=m)) (fun wr=>Ej a wr)
 case atStart=>exact⟨l,n,m,0,0,f0,⟨#[]⟩,[],none,hn,by omega,LC.start S1.pr _,S1.below (bR.alloc lr _),Sq.start,E0,F0,lr,by simp[Hid,jG],by simp[Hid],lr⟩
 case round=>
  clear S1 E0 F0;obtain⟨lc,nc,mc,D,cc,f,H,K,A,ba,bj,HS,HR,ab,HE,HF,av,HN,HH,HM⟩:=hrel;have ak:=Calls.int (aV f (by have:=av.out;omega) a hi nc mc (z+1) lc wr (by have:=HF.out;omega) HR.gl HR.pr ba (by omega)) (args':=#[.pointer (some ⟨a,0,none⟩),.int .i64 ((z:Int)+1)]) rfl;go_wp2_with fail;refine ak.mono ?_;rintro e U ⟨O,M⟩;clear ak;cases hr:lV f (z+1) nc lc with
  | none=>
   rw[hr] at M;obtain⟨ff,x,c,rfl,hc⟩:=M;have EN:Hid (RR=none):=HE.out.trans (U0 hr);have T2:=fH (HR.two.step O HR.alt);have G2:=fH (fN HR.gr O);have bk:(c != 0)=true:=by simp[hc]
   have HC:=GG.mk hc;have aF:w.heap.size+1<U.heap.size:=T2.b1.sz;have ag:=fH aF;clear hr hc O;unfold lF;rw[uP];go_upto_region 3 with(fail)
   obtain⟨J,I⟩:∃ J,(U.alloc (.cells #[.string ⟨#[]⟩,.string ⟨#[]⟩,.int .i64 0,.string ⟨#[]⟩,.slice none 0 0] 86)).alloc (.cells #[.string ff,.int .i64 x,.int .i64 c] 132)=J:=⟨_,rfl⟩
   have B3:Hid (Bw U J):=by rw[<-I];exact(bR.alloc lr _).alloc (by simp) _
   have K3:Hid (fV J (U.heap.size+1) [.string ff,.int .i64 x,.int .i64 c]):=by
    have:=fV.new (U.alloc (.cells #[.string ⟨#[]⟩,.string ⟨#[]⟩,.int .i64 0,.string ⟨#[]⟩,.slice none 0 0] 86)) [.string ff,.int .i64 x,.int .i64 c] 132;rw[<-I];show fV _ _ _;simpa using this
   have T3:=fH (T2.below B3);have G3:=fH (tU G2 B3);rw[I];clear I aF T2 G2;obtain⟨d0,d1,d2⟩:=qj K3.cell;have tc:=T3.c;obtain⟨x0,x1,x2,x3,x4,y0,y1,y2,g0,g1,g2,g3,g4,k0,k1,k2⟩:=tc;have aU:¬ w.heap.size=U.heap.size+1:=by have:=ag.out;omega
   have aT:¬ U.heap.size+1=w.heap.size:=by have:=ag.out;omega
   have aP:¬ w.heap.size=U.heap.size:=by have:=ag.out;omega
   have aI:¬ U.heap.size=w.heap.size:=by have:=ag.out;omega
   go_wp2;go_region;go_wp2_with fail;refine bodyPost_ret (XZ _ T3.c rfl rfl _ _ _ _ _ _ _ _ ⟨rfl,rfl,rfl,rfl,rfl,rfl,rfl,rfl⟩) rfl ?_;exact ju.no EN (Qr (jw G3 lr _ _ _ _ _ _ _ _)) HC.out
  | some r=>
   obtain⟨t,l1,n1⟩:=r;rw[hr] at M;obtain⟨T,m1,rfl,hT,aC,aa,aQ,aE,ao,ax,aS⟩:=M;have S2:=fH (HS.step O ax);have R2:=fH (HR.step O ax);have TB:=fH ((aa.old (bad':=(Value.slice A D cc).ownBlock) (fun g e=>.inl (HS.row.lt g e).2)).base (lo':=W1.heap.size+1) (by have:=HS.box.sz;omega));have HT:=fH hT;have aA:=fH hr;have be:=fH aC;have aL:=fH aQ;have af:Hid (n1=n+jG (K++[T])):=by show _=_;rw[kU,aE,HN.out];simp[jG];omega
   have aB:Hid (m1<mc):=aS;have aY:Hid (l1.length<lc.length):=(Su f).1 _ _ _ _ _ _ hr;have Z:=fH ao;clear hr O hT aC aa aQ aE aS ax ao HS;unfold lF fL.val;go_upto_region 3 with(fail)
   obtain⟨J,I⟩:∃ J,(U.alloc (.cells T.cells.toArray 86)).alloc (.cells #[.string ⟨#[]⟩,.int .i64 0,.int .i64 0] 132)=J:=⟨_,rfl⟩
   have B3:Hid (Bw U J):=by rw[<-I];exact(bR.alloc lr _).alloc (by simp) _
   have aH:Hid (fV J U.heap.size T.cells):=by rw[<-I];exact(fV.new U T.cells _).alloc _
   have aM:Hid (fV J (U.heap.size+1) [.string ⟨#[]⟩,.int .i64 0,.int .i64 0]):=by
    have:=fV.new (U.alloc (.cells T.cells.toArray 86)) [.string ⟨#[]⟩,.int .i64 0,.int .i64 0] 132;rw[<-I];show fV _ _ _;simpa using this
   have S3:=fH (S2.below B3);have R3:=fH (R2.below B3);have aD:=fH ((TB.low B3).low ((Below.refl J.heap.size J).alloc lr (.cells T.cells.toArray 86)));have SA:=fH (S3.below ((Below.refl J.heap.size J).alloc lr (.cells T.cells.toArray 86)));have RA:=fH (R3.below ((Below.refl J.heap.size J).alloc lr (.cells T.cells.toArray 86)));have aJ:(U.alloc (.cells #[.string T.op,.string T.nm,.int .i64 T.aop,.string T.ver,.slice T.ka T.kids.length T.kc] 86)).alloc (.cells #[.string ⟨#[]⟩,.int .i64 0,.int .i64 0] 132)=J:=I;rw[aJ];clear I aJ S2 R2 TB;obtain⟨k0,k1,k2,k3,k4⟩:=rF aH.cell;have q2:=aM.cell 2 _ rfl;have x4:=S3.box.cell 4 _ rfl;have bf:D<=4294967280:=by omega
   go_upto_region 6 with(at_builtin;refine fR _ rfl _ _ _ rfl (W1.heap.size+1) 86 i0 _ 5 80 underlying84 bc aW bd aZ rfl (by omega) (.slice A D cc) D _ rfl (SA.row) (J.heap.size+1) (some ⟨J.heap.size,0,none⟩) 1 1 T.cells rfl (by have:=wq J 86 (.string T.op) (.string T.nm) (.int .i64 T.aop) (.string T.ver) (.slice T.ka T.kids.length T.kc);simpa [fL.cells] using this) (by simp[Value.oneCell',fL.cells]) (by simp only[maxLen];omega) (by omega) (by simp;have:=S3.box.sz;omega) ?_;intro v1 w4 o1 g1 a1;obtain⟨A3,c3,rfl⟩:=gg o1;have bx:=fH (SA.box.grownBy g1 (fun e=>by have:=(SA.row.lt _ e.symm).1;omega));have y4:=bx.cell 4 _ rfl;have z4:=bx.free 4 (by simp);clear bx)
   clear k0 k1 k2 k3 k4 q2 x4 y4 z4;have ap:w.heap.size+2<=W1.heap.size:=by have:=HZ.out;omega
   have S5:=fH (SA.grow aD be o1 g1 a1);have R5:=fH ((RA.wide g1 (fun j e=>by have:=(SA.row.lt j e).1;omega)).far (j:=4) ap (.slice A3 (D+1) c3));have V:=fH ap;obtain⟨W5,aN⟩:∃ W5,w4.setCell ⟨W1.heap.size,4,none⟩ (.slice A3 (D+1) c3)=W5:=⟨_,rfl⟩
   rw[aN] at S5 R5 |-;clear aN ap o1 g1 a1 SA RA aD S3 R3 aH aM B3;obtain⟨b5,bg,c5,P,q,k5,hP,-⟩:=R5.pr.cells;have HP:=fH hP;obtain⟨r0,r1,r2,r3,r4,r5,r6,r7,r8,r9,bi⟩:=k5;clear hP;go_upto_region 7 with(fail)
   clear r0 r1 r2 r3 r4 r5 r6 r7 r8 r9;obtain⟨W6,ae⟩:∃ W6,W5.alloc (.cells #[.string P,.int .i64 q] 186)=W6:=⟨_,rfl⟩
   have B6:Hid (Bw W5 W6):=by rw[<-ae];exact bR.alloc lr _
   have aK:Hid (fV W6 W5.heap.size [.string P,.int .i64 q]):=by rw[<-ae];exact fV.new W5 [.string P,.int .i64 q] _
   have S6:=fH (S5.below B6);have R6:=fH (R5.below B6);have bh:Hid (w.heap.size+2<=W5.heap.size):=by have:=S5.box.sz;have:=V.out;show _<=_;omega
   rw[ae];clear ae S5 R5 B6;have p0:=aK.cell 0 _ rfl;have p1:=aK.cell 1 _ rfl;have u0:=S6.box.cell 0 _ rfl;have u4:=S6.box.cell 4 _ rfl;have hC:=AD H (D+1) W6;rw[ab.out.close] at hC;have hC:=Calls.int hC (args':=#[.string H,.int .i64 ((D:Int)+1)]) rfl;have X:=Ku H (D+1) P W6 R6.gl.gl;have X:=Calls.int X (args':=#[.string H,.int .i64 ((D:Int)+1),.string P]) rfl;obtain⟨bb,aG⟩:∃ bb:Bool,decide (bl P=[41]/\D≠0)=bb:=⟨_,rfl⟩
   obtain⟨fb,az⟩:∃ fb:Bool,gx (bl H) (D+1) (bl P)=fb:=⟨_,rfl⟩
   obtain⟨cb,ay⟩:∃ cb:Bool,decide (D≠0)=cb:=⟨_,rfl⟩
   rw[az] at X;rw[ay] at hC;have ah:=fH az;have ai:=fH aG;have aX:=fH ay;clear aG az ay;go_cut [43] (fun v wx=>v=.bool bb/\W6=wx)
   case first=>
    clear X;by_cases R:bl P=[41]
    ·have E1:P.toList=[41]:=by rw[fK];exact R
     have E2:Hid (bb=cb):=by show _=_;rw[<-ai.out,<-aX.out];simp[R]
     clear R;go_wp2_with fail;refine hC.mono ?_;rintro e w' ⟨rfl,rfl⟩;go_wp2;go_meet;exact⟨by rw[E2.out],rfl⟩
    ·have E1:(P.toList==([41]:LU))=false:=by rw[fK,bF];exact R
     have E2:Hid (bb=false):=by show _=_;rw[<-ai.out];exact dF (fun h=>R h.1)
     clear R;go_wp2;go_meet;exact⟨by rw[E2.out],rfl⟩
   case rest=>
   obtain⟨rfl,rfl⟩:=hcut;clear hC;cases bb with
   | true=>
    obtain⟨aj,aq⟩:=dO ai.out;have aO:=GG.mk aq;have an:Hid (gJ l1=[41]):=by show _=_;rw[<-HP.out];exact aj
    have EY:Hid (RR=some (.node (bl H) (tG (K++[T])),gY l1,n1)):=by
     show _=_;rw[HE.out,Ek,show tG [T]=[t] by simp[tG,HT.out]];exact XU aA an (fun e=>aq (by have h1:=S6.len;rw[List.length_append,List.length_singleton,Cp.1 e] at h1;simp at h1;omega))
    clear aj aq X;go_wp2_with fail;refine(oL a hi n1 m1 l1 W6 R6.pr (by rw[an.out];simp)).mono ?_;rintro e w7 ⟨rfl,R,O,ac⟩;have S7:=fH (S6.step O R);have R7:=fH (R6.step O R);clear R O ac p0 p1 u0 u4;have u0:=S7.box.cell 0 _ rfl;have u1:=S7.box.cell 1 _ rfl;have u2:=S7.box.cell 2 _ rfl;have u3:=S7.box.cell 3 _ rfl;have u4:=S7.box.cell 4 _ rfl;have tc:=R7.two.c;obtain⟨x0,x1,x2,x3,x4,y0,y1,y2,g0,g1,g2,g3,g4,k0,k1,k2⟩:=tc;have aU:¬ w.heap.size=W1.heap.size:=by have:=V.out;omega
    have aT:¬ W1.heap.size=w.heap.size:=by have:=V.out;omega
    have aP:¬ w.heap.size+1=W1.heap.size:=by have:=V.out;omega
    have aI:¬ W1.heap.size=w.heap.size+1:=by have:=V.out;omega
    go_wp2_with fail;refine bodyPost_ret (Sv _ R7.two.c rfl rfl _ _ _ _ _ _ _ _ ⟨rfl,rfl,rfl,rfl,rfl,rfl,rfl,rfl⟩) rfl ?_;have ln:=S7.len;have am:=S7.row;rw[<-ln] at am;have aa:iD w7 (W1.heap.size+1) none (.mk H ⟨#[]⟩ 0 ⟨#[]⟩ A3 c3 (K++[T])):=.mk _ am (fun g _=>by simp) (fun k hk=>(S7.kids k hk).any);rw[<-ln];refine ju.yes (T:=.mk H ⟨#[]⟩ 0 ⟨#[]⟩ A3 c3 (K++[T])) ?_ (jw R7.gr lr _ _ _ _ _ _ _ _) (jR.of_group ab (by rw[List.length_append,List.length_singleton] at ln;omega) aO.out S7.good) ((Eh aa (by have:=V.out;omega) _ _ _ _ _ _ _ _).base (by have:=V.out;omega)) ?_ ?_ Z (Co R7.pr R7.lt _ _ _ _ _ _ _ _) (by have:=aB.out;have:=HM.out;omega)
    ·rw[EY.out,Cn _ _ _ _ _ _ _ (sQ (ab.out.word aO.out)).1]
    ·rw[DP];have:IJ (K++[T])<=32-z:=acp (fun k hk=>by
      rcases List.mem_append.1 hk with hk | hk
      ·have:=HH.out k hk;omega
      ·obtain rfl:=List.mem_singleton.1 hk;have:=aL.out;omega)
     show IJ (K++[T])+z<=32;omega
    ·rw[af.out,lW (by simp[fL.kids])];rfl
   | false=>
   have HB:Hid (¬ (gJ l1=[41]/\tG K≠[])):=by
    rintro⟨h1,h2⟩;refine of_decide_eq_false ai.out ⟨by rw[HP.out];exact h1,fun e=>h2 ?_⟩;have:=S6.len;rw[List.length_append,List.length_singleton] at this;rw[Cp];exact List.length_eq_zero_iff.1 (by omega)
   go_wp2_with fail;refine X.mono ?_;rintro e w' ⟨rfl,rfl⟩;clear X;cases fb with
   | false=>
    have EN:Hid (RR=none):=by
     show _=_;rw[HE.out];refine XV aA HB ?_;have:=S6.len;rw[List.length_append,List.length_singleton] at this;rw[El,<-HP.out,show K.length+1=D+1 by omega];exact ah.out
    go_wp2_with fail;refine mb (lP P q 3 _) ?_;rintro w7 hb;have R7:=fH (R6.below hb);have tc:=R7.two.c;obtain⟨x0,x1,x2,x3,x4,y0,y1,y2,g0,g1,g2,g3,g4,k0,k1,k2⟩:=tc;clear hb;unfold lF;go_wp2_with fail;refine bodyPost_ret (Sv _ R7.two.c rfl rfl _ _ _ _ _ _ _ _ ⟨rfl,rfl,rfl,rfl,rfl,rfl,rfl,rfl⟩) rfl ?_;exact ju.no EN (jw R7.gr lr _ _ _ _ _ _ _ _) (by decide)
   | true=>
    have ad:Hid (gJ l1≠[]):=by have:=Qs ah.out;rwa [HP.out] at this
    have LN:Hid (K.length=D):=by have:=S6.len;rw[List.length_append,List.length_singleton] at this;show _=_;omega
    have F1:Hid (2*(gY l1).length+2<=f-1+1/\f=f-1+1):=by have h1:=HF.out;have h2:=aY.out;have h3:=qA ad.out;constructor<;>omega
    have EN:Hid (RR=nK (f-1+1) (z+1) n1 (tG (K++[T])) (if D=0 then bl P else bl H) (gY l1)):=by
     show _=_;rw[HE.out,U1 aA.out HB.out (by rw[El,LN.out,<-HP.out];exact ah.out),<-F1.2,Ek,show tG [T]=[t] by simp[tG,HT.out],HP.out];congr 1;by_cases h0:D=0
     ·rw[if_pos h0,if_pos (by rw[Cp];exact List.length_eq_zero_iff.1 (by rw[LN.out,h0]))]
     ·rw[if_neg h0,if_neg (by rw[Cp];intro e;have:=LN.out;rw[e] at this;simp at this;omega)]
    have Y:=fH (ab.next ah);have aR:Hid (∀ k∈K++[T],k.ht+(z+1)<=32):=by
     intro k hk;rcases List.mem_append.1 hk with hk | hk
     ·exact HH.out k hk
     ·obtain rfl:=List.mem_singleton.1 hk;exact aL.out
    have al:D+1<=64:=by have h1:=np (K++[T]);have h2:=af.out;have h3:=Z.out;rw[List.length_append,List.length_singleton,LN.out] at h1;omega
    by_cases h0:D=0
    ·have e0:bl H=[]:=ab.nil.2 h0;have E1:H.toList=[]:=by rw[fK];exact e0
     have E2:H.toList.isEmpty=true:=by rw[E1];rfl
     rw[if_pos h0] at EN Y;have z0:=S6.box.free 0 (by simp);have S7:=fH (S6.put P);have R7:=fH (R6.far (j:=0) V (.string P));clear e0 h0;go_wp2_with fail;refine(oL a hi n1 m1 l1 _ R7.pr ad).mono ?_;rintro e w7 ⟨rfl,R,O,ac⟩;have S8:=fH (S7.step O R);have R8:=fH (R7.step O R);have MD:Hid (m1-1<mc):=by have:=aB.out;show _<_;omega
     clear R O ac;go_wp2;go_roundw
     case rel=>exact⟨gY l1,n1,m1-1,D+1,c3,f-1,P,K++[T],A3,Z,al,S8,R8,Y,EN,F1.1,by have:=av.out;show _<=_;omega,af,aR,by have:=MD.out;have:=HM.out;show _<=_;omega⟩
     case measure=>exact R8.pr.dec HR.pr MD.out
    ·have e0:bl H≠[]:=fun e=>h0 (ab.nil.1 e);have E1:(H.toList==([]:LU))=false:=by rw[fK,bF];exact e0
     have E2:H.toList.isEmpty=false:=by rw[fK,List.isEmpty_eq_false_iff];exact e0
     have E3:¬ H.toList=[]:=by rw[fK];exact e0
     rw[if_neg h0] at EN Y;clear e0 h0;go_wp2_with fail;refine(oL a hi n1 m1 l1 _ R6.pr ad).mono ?_;rintro e w7 ⟨rfl,R,O,ac⟩;have S8:=fH (S6.step O R);have R8:=fH (R6.step O R);have MD:Hid (m1-1<mc):=by have:=aB.out;show _<_;omega
     clear R O ac;go_wp2;go_roundw
     case rel=>exact⟨gY l1,n1,m1-1,D+1,c3,f-1,H,K++[T],A3,Z,al,S8,R8,Y,EN,F1.1,by have:=av.out;show _<=_;omega,af,aR,by have:=MD.out;have:=HM.out;show _<=_;omega⟩
     case measure=>exact R8.pr.dec HR.pr MD.out
theorem MX (h:gJ l=[]\/gJ l=[41]):lV (f+1) deep n l=none:=by unfold lV;rw[if_pos h]
theorem U8 (h:gJ l=[40]):lV (f+1) 32 n l=none:=by unfold lV;rw[if_neg (by rw[h];simp),if_pos h];rfl
theorem X9 (h:gJ l=[40])(z:deep≠32):lV (f+1) deep n l=nK f (deep+1) n [] [] (gY l):=by rw[lV,if_neg (by rw[h];simp),if_pos h,if_neg z]
theorem U9 (z:¬ (gJ l=[]\/gJ l=[41]))(h:gJ l≠[40]):lV (f+1) deep n l=mu n l:=by rw[lV,if_neg z,if_neg h]
theorem Sw {r:Option (mQ×LU×Nat)}{m0:Nat}{e:Ending}(R:xM w W a hi l n m)(h:ju r a hi m deep n W e W')(hm:m<=m0)(hW:w.heap.size+2<=W.heap.size):
  ∃ (T:fL) (f:BA) (x c:Int),e=.returned (.tuple #[T.val,lF f x c])/\IR W' w.heap.size /\
   ju r a hi m0 deep n w (.returned (.tuple #[T.val,lF f x c])) (rB W' w.heap.size (.string T.op) (.string T.nm) (.int .i64 T.aop) (.string T.ver) (.slice T.ka T.kids.length T.kc) (.string f) (.int .i64 x) (.int .i64 c)):=by
 obtain⟨D,z⟩:=h;have F:=R.two.step D R.alt;have H:=fN R.gr D;cases r with
 | none=>
  obtain⟨f,x,c,V,K⟩:=z;exact⟨rW,f,x,c,V,F,ju.no rfl (jw H lr _ _ _ _ _ _ _ _) K⟩
 | some y=>
  obtain⟨t,l',n'⟩:=y;obtain⟨T,m',Y,Z,M,U,O,X,J,I,a9⟩:=z;exact⟨T,⟨#[]⟩,0,0,Y,F,ju.yes (by rw[Z]) (jw H lr _ _ _ _ _ _ _ _) M ((Eh U (by omega) _ _ _ _ _ _ _ _).base (by omega)) O X J (Co I R.lt _ _ _ _ _ _ _ _) (by omega)⟩
theorem acr (F:Nat)(IH:∀ f,f<F->aco f):acn F:=by
 intro a hi n m z l w hF hG h hn hd;obtain⟨Y,rfl⟩:∃ Y,F=Y+1:=⟨F-1,by omega⟩
 have HF:=fH hF;have ae:=fH IH;obtain⟨R,ac⟩:∃ R,(w.alloc (.cells #[.string ⟨#[]⟩,.string ⟨#[]⟩,.int .i64 0,.string ⟨#[]⟩,.slice none 0 0] 86)).alloc (.cells #[.string ⟨#[]⟩,.int .i64 0,.int .i64 0] 132)=R:=⟨_,rfl⟩
 have S0:Hid (xM w R a hi l n m):=by rw[<-ac];exact xM.start hG h _ _
 have z0:R.heap.size=w.heap.size+2:=by rw[<-ac];simp
 obtain⟨b,off,c,T,p,k,hT,U⟩:=S0.pr.cells;have HT:=fH hT;obtain⟨c0,c1,ai,f1,t0,t1,ne,m1,mc,cz,tz⟩:=k;clear h U hT;obtain⟨Z,ab⟩:∃ Z,R.alloc (.cells #[.string T,.int .i64 p] 186)=Z:=⟨_,rfl⟩
 have B1:Hid (Bw R Z):=by rw[<-ab];exact bR.alloc lr _
 have X:Hid (xM w Z a hi l n m):=S0.below B1.out;have K1:Hid (fV Z R.heap.size [.string T,.int .i64 p]):=by rw[<-ab];exact fV.new R [.string T,.int .i64 p] _
 have aj:=fH z0;have ad:Hid (w.heap.size+2<=Z.heap.size):=by have:=B1.size;show _<=_;omega
 clear S0 hG z0 hF IH B1;go_in;go_upto_region 2 with(fail)
 clear ac ab c0 c1 ai f1 t0 t1 ne m1 mc cz;have t0:=K1.cell 0 _ rfl;have t1:=K1.cell 1 _ rfl;by_cases M:bl T=[]
 ·have E1:T.toList=[]:=by rw[fK];exact M
  have E2:T.toList.isEmpty=true:=by rw[E1];rfl
  have EN:Hid (lV (Y+1) z n l=none):=MX (.inl (by rw[<-HT.out];exact M));clear M;go_wp2_with fail;refine mb (lP T p 3 _) ?_;rintro w2 V;have I:=fH (X.below V);have O:=I.two.c;obtain⟨x0,x1,x2,x3,x4,y0,y1,y2,g0,g1,g2,g3,g4,k0,k1,k2⟩:=O;clear V;unfold lF;go_wp2_with fail;refine bodyPost_ret (xN _ I.two.c rfl rfl _ _ _ _ _ _ _ _ ⟨rfl,rfl,rfl,rfl,rfl,rfl,rfl,rfl⟩) rfl ?_;exact ju.no EN (jw I.gr lr _ _ _ _ _ _ _ _) (by decide)
 have F1:(T.toList==([]:LU))=false:=by rw[fK,bF];exact M
 have F2:T.toList.isEmpty=false:=by rw[fK,List.isEmpty_eq_false_iff];exact M
 have F3:¬ T.toList=[]:=by rw[fK];exact M
 by_cases U:bl T=[41]
 ·have E1:T.toList=[41]:=by rw[fK];exact U
  have EN:Hid (lV (Y+1) z n l=none):=MX (.inr (by rw[<-HT.out];exact U));clear M U F1 F2 F3;go_wp2_with fail;refine mb (lP T p 3 _) ?_;rintro w2 V;have I:=fH (X.below V);have O:=I.two.c;obtain⟨x0,x1,x2,x3,x4,y0,y1,y2,g0,g1,g2,g3,g4,k0,k1,k2⟩:=O;clear V;unfold lF;go_wp2_with fail;refine bodyPost_ret (xN _ I.two.c rfl rfl _ _ _ _ _ _ _ _ ⟨rfl,rfl,rfl,rfl,rfl,rfl,rfl,rfl⟩) rfl ?_;exact ju.no EN (jw I.gr lr _ _ _ _ _ _ _ _) (by decide)
 by_cases h3:bl T=[40]
 ·have E1:T.toList=[40]:=by rw[fK];exact h3
  have HL:Hid (gJ l=[40]):=by show _=_;rw[<-HT.out];exact h3
  clear M U h3 F1 F2 F3;by_cases J:z=32
  ·have EN:Hid (lV (Y+1) z n l=none):=by show _=_;rw[J];exact U8 HL.out
   have af:((z:Int)==32)=true:=by simp[J]
   clear J;go_wp2_with fail;refine mb (lP T p 4 _) ?_;rintro w2 V;have I:=fH (X.below V);have O:=I.two.c;obtain⟨x0,x1,x2,x3,x4,y0,y1,y2,g0,g1,g2,g3,g4,k0,k1,k2⟩:=O;clear V;unfold lF;go_wp2_with fail;refine bodyPost_ret (xN _ I.two.c rfl rfl _ _ _ _ _ _ _ _ ⟨rfl,rfl,rfl,rfl,rfl,rfl,rfl,rfl⟩) rfl ?_;exact ju.no EN (jw I.gr lr _ _ _ _ _ _ _ _) (by decide)
  ·have EG:=fH (X9 (f:=Y) (n:=n) HL J);have af:((z:Int)==32)=false:=by simp;omega
   have HD:Hid (z<32):=by show _<_;omega
   clear J;go_wp2_with fail;refine(oL a hi n m l Z X.pr (by rw[HL.out];simp)).mono ?_;rintro e w2 ⟨rfl,hp,hg,ah⟩;have I:=fH (X.step hg hp);have ag:Hid (w.heap.size+2<=w2.heap.size):=by have:=hg.size;have:=ad.out;show _<=_;omega
   have hG:=ae.out Y (by omega) a hi n (m-1) z (gY l) w2 (by have:=HF.out;have:=qA (l:=l) (by rw[HL.out];simp);omega) I.gl I.pr hn HD.out;clear hp hg ah t0 t1;go_wp2_with fail;refine hG.mono ?_;rintro e w3 D;obtain⟨T',f,x,c',rfl,tw,H⟩:=Sw I D (m0:=m) (by omega) ag.out;have K:=fH H;have aa:=fH tw;have O:=tw.c;obtain⟨x0,x1,x2,x3,x4,y0,y1,y2,g0,g1,g2,g3,g4,k0,k1,k2⟩:=O;clear D H hG tw;unfold lF fL.val;go_wp2_with fail;refine bodyPost_ret (xN _ aa.c rfl rfl _ _ _ _ _ _ _ _ ⟨rfl,rfl,rfl,rfl,rfl,rfl,rfl,rfl⟩) rfl ?_;rw[EG.out];exact K.out
 ·have F4:(T.toList==([41]:LU))=false:=by rw[fK,bF];exact U
  have F5:(T.toList==([40]:LU))=false:=by rw[fK,bF];exact h3
  have EA:Hid (lV (Y+1) z n l=mu n l):=by
   show _=_;rw[HT.out] at M U h3;exact U9 (by rintro(h | h)<;>contradiction) h3
  clear M U h3;have hA:=U7 a hi n m z l Z X.gl X.pr hn hd;go_wp2_with fail;refine hA.mono ?_;rintro e w3 D;obtain⟨T',f,x,c',rfl,tw,H⟩:=Sw X D lr ad.out;have K:=fH H;have aa:=fH tw;have O:=tw.c;obtain⟨x0,x1,x2,x3,x4,y0,y1,y2,g0,g1,g2,g3,g4,k0,k1,k2⟩:=O;clear D H hA tw t0 t1;unfold lF fL.val;go_wp2_with fail;refine bodyPost_ret (xN _ aa.c rfl rfl _ _ _ _ _ _ _ _ ⟨rfl,rfl,rfl,rfl,rfl,rfl,rfl,rfl⟩) rfl ?_;rw[EA.out];exact K.out
theorem MY (F:Nat):acn F/\aco F:=by
 induction F using Nat.strongRecOn with
 | _ F ih=>exact⟨acr F fun f z=>(ih f z).2,acq F fun f z=>(ih f z).1⟩
theorem IR.off {s:Nat}(h:IR W s)(z:W.grownBy W' (some a))(D:s+1<a):IR W' s:=
 ⟨h.b0.grownBy z (by simp;omega),h.b1.grownBy z (by simp;omega)⟩
theorem ww {s:Nat}(h:Bw w W)(J:w.heap.size<=s)(H F D z I u0 u1 u2:Value):Bw w (rB W s H F D z I u0 u1 u2):=by
 unfold rB
 repeat' refine fO ?_ (by omega) _
 exact h
theorem qC {B:Nat}(h:Below B w W):Below B w W.drew:=⟨h.os,h.tape,h.output,h.size,h.block⟩
def mH (s:BA)(w:World)(e:Ending)(w':World):Prop:=
 ∃ (T:fL) (f:BA) (x c:Int),e=.returned (.tuple #[T.val,lF f x c])/\Bw w w'/\match jt (bl s) with
  | none=>c≠0/\T=rW
  | some t=>c=0/\T.pl=t/\jR T/\iD w' w.heap.size none T/\T.ht<=32/\T.cnt<=64
theorem mH.no {f:BA}{x c:Int}(F:jt (bl s)=none)(D:Bw w w')(z:c≠0):mH s w (.returned (.tuple #[rW.val,lF f x c])) w':=⟨rW,f,x,c,rfl,D,by rw[F];exact⟨z,rfl⟩⟩
theorem mH.yes {T:fL}(F:jt (bl s)=some T.pl)(J:Bw w w')(H:jR T)(z:iD w' w.heap.size none T)(I:T.ht<=32)(D:T.cnt<=64):mH s w (.returned (.tuple #[T.val,lF ⟨#[]⟩ 0 0])) w':=⟨T,⟨#[]⟩,0,0,rfl,J,by rw[F];exact⟨rfl,rfl,H,z,I,D⟩⟩
theorem MZ (h:lV (2*l.length+2) 0 0 l=none):jt l=none:=by unfold jt;rw[h]
theorem M7 {d:mQ}(h:lV (2*l.length+2) 0 0 l=some (d,r,n))(z:gJ r≠[]):jt l=none:=by unfold jt;rw[h];simp only;rw[if_neg z]
theorem M8 {d:mQ}(h:lV (2*l.length+2) 0 0 l=some (d,r,n))(z:gJ r=[]):jt l=some d:=by unfold jt;rw[h];simp only;rw[if_pos z]
theorem Va (z:Array Value){s:Nat}(h:Qp W s)(O:z[2]?=some (.pointer (some ⟨s,0,none⟩)))(X:z[3]?=some (.pointer (some ⟨s+1,0,none⟩)))(J H F D I u0 u1 u2:Value)
  (hv:J.oneCell'=true/\H.oneCell'=true/\F.oneCell'=true/\D.oneCell'=true/\I.oneCell'=true/\u0.oneCell'=true/\u1.oneCell'=true/\u2.oneCell'=true):
  (results Tryz.f59 z).run prog (rB W s J H F D I u0 u1 u2)=.ok (.tuple #[.agg #[J,H,F,D,I],.agg #[u0,u1,u2]]) (rB W s J H F D I u0 u1 u2):=by
 obtain⟨M,V,x2,Y,R,K,Z,U,_,_,_,_,_,_,_,_⟩:=h;simp(maxDischargeDepth:=10) [results,results59,O,X,go_sem,M,V,x2,Y,R,K,Z,U]
theorem Em (z:Array Value){s:Nat}(h:Qp W s)(O:z[2]?=some (.pointer (some ⟨s,0,none⟩)))(X:z[3]?=some (.pointer (some ⟨s+1,0,none⟩)))(J H F D I u0 u1 u2:Value)
  (hv:J.oneCell'=true/\H.oneCell'=true/\F.oneCell'=true/\D.oneCell'=true/\I.oneCell'=true/\u0.oneCell'=true/\u1.oneCell'=true/\u2.oneCell'=true):
  (results Tryz.f59 z).run prog (rB W s J H F D I u0 u1 u2).drew=.ok (.tuple #[.agg #[J,H,F,D,I],.agg #[u0,u1,u2]]) (rB W s J H F D I u0 u1 u2).drew:=by
 obtain⟨M,V,x2,Y,R,K,Z,U,_,_,_,_,_,_,_,_⟩:=h;simp(maxDischargeDepth:=10) [results,results59,O,X,go_sem,M,V,x2,Y,R,K,Z,U]
theorem PR.start {w1:World}{xs:List IL}(h:IM W w1 xs A n c)(z:xs.map (fun x=>bl x.text)=lX (s.size+1) (bl s))(M:∀ x∈xs,x.text.size<=s.size)(K:s.size<=4294967280)(t:TypeId):PR (w1.alloc (.cells #[.slice A n c,.int .i64 0] t)) w1.heap.size (w1.heap.size+1) (bl s) 0 n:=by
 have Y:0<n:=by
  rw[<-h.len,<-List.length_map (f:=fun x:IL=>bl x.text),z];obtain⟨r,e,_⟩:=wu s.size (bl s);rw[e];simp
 rcases h.row.2 with⟨_,V⟩ | ⟨g,cap,F,H,R,D,J,I,U,O⟩
 ·omega
 ·injection H with hA _ hc;subst hc;have X:g<w1.heap.size:=by rw[Array.getElem?_eq_some_iff] at D;exact D.1
  refine⟨⟨g,0,c,s.size,xs,?_,?_,h.len,z,by rw[fI];exact Nat.le_refl _,by omega,by omega,J,I,fun x z=>Nat.le_trans (M x z) K⟩,by omega,by simp⟩
  ·rw[<-hA];exact fV.new w1 [.slice A n c,.int .i64 0] t
  ·rw[<-hA];exact(gR h.row).below (bR.alloc lr _)
theorem En (s:BA)(w:World)(hG:Gl w)(hs:s.size<=1000000):Calls prog 59 #[.string s] w (mH s w):=by
 have HG:=fH hG;obtain⟨X,U⟩:∃ X,(w.alloc (.cells #[.string ⟨#[]⟩,.string ⟨#[]⟩,.int .i64 0,.string ⟨#[]⟩,.slice none 0 0] 86)).alloc (.cells #[.string ⟨#[]⟩,.int .i64 0,.int .i64 0] 132)=X:=⟨_,rfl⟩
 have T0:Hid (IR X w.heap.size):=by rw[<-U];exact IR.new w _ _
 have B0:Hid (Bw w X):=by rw[<-U];exact(bR.alloc lr _).alloc (by simp) _
 have Z0:Hid (X.heap.size=w.heap.size+2):=by rw[<-U];show _=_;simp
 go_in;go_wp2_with fail;refine(Qf s X (by omega)).mono ?_;rintro e M ⟨A,n,c,xs,rfl,H,ay,ak,al⟩;obtain⟨V,R⟩:∃ V,M.alloc (.cells #[.slice A n c,.int .i64 0] 183)=V:=⟨_,rfl⟩
 have P2:Hid (PR V M.heap.size (M.heap.size+1) (bl s) 0 n):=by rw[<-R];exact PR.start H ak al (by omega) _
 have B2:Hid (Bw w V):=by rw[<-R];exact(fM B0 H.bel).alloc (by have:=H.bel.size;have:=Z0.out;omega) _
 have T2:Hid (IR V w.heap.size):=by rw[<-R];exact(T0.below H.bel).below (bR.alloc lr _)
 have Z2:Hid (w.heap.size+2<=M.heap.size):=by have:=H.bel.size;have:=Z0.out;show _<=_;omega
 have G2:Hid (yY M.heap.size V):=⟨w,HG,B2,by have:=Z2.out;omega⟩
 go_upto_region 2 with(fail)
 have hD:=(MY (2*(bl s).length+2)).1 M.heap.size (M.heap.size+1) 0 n 0 (bl s) V (by omega) G2 P2 (by omega) (by omega);have hD:=Calls.int hD (args':=#[.pointer (some ⟨M.heap.size,0,none⟩),.int .i64 0]) rfl;go_wp2_with fail;refine hD.mono ?_;rintro e z ⟨hg,D⟩;have T3:=fH (T2.off hg (by have:=Z2.out;omega));have B3:=fH (kP B2 hg (by have:=Z2.out;omega));have K:Hid (w.heap.size+2<=z.heap.size):=by have:=T3.b1.sz;have:=hg.size;have:=P2.hz;have:=Z2.out;show _<=_;omega
 cases hr:lV (2*(bl s).length+2) 0 0 (bl s) with
 | none=>
  rw[hr] at D;obtain⟨ff,x,c,rfl,hc⟩:=D;have EN:=fH (MZ hr);have aq:(c != 0)=true:=by simp[hc]
  have ar:(c==0)=false:=by simp[hc]
  have HC:=GG.mk hc;unfold lF;rw[uP];go_upto_region 3 with(fail)
  obtain⟨I,F⟩:∃ I,(z.alloc (.cells #[.string ⟨#[]⟩,.string ⟨#[]⟩,.int .i64 0,.string ⟨#[]⟩,.slice none 0 0] 86)).alloc (.cells #[.string ff,.int .i64 x,.int .i64 c] 132)=I:=⟨_,rfl⟩
  have O:Hid (Bw z I):=by rw[<-F];exact(bR.alloc lr _).alloc (by simp) _
  have K4:Hid (fV I (z.heap.size+1) [.string ff,.int .i64 x,.int .i64 c]):=by
   have:=fV.new (z.alloc (.cells #[.string ⟨#[]⟩,.string ⟨#[]⟩,.int .i64 0,.string ⟨#[]⟩,.slice none 0 0] 86)) [.string ff,.int .i64 x,.int .i64 c] 132;rw[<-F];show fV _ _ _;simpa using this
  have Y:=fH (T3.below O);have B5:=fH (fM B3 O);rw[F];obtain⟨d0,d1,d2⟩:=qj K4.cell;have tc:=Y.c;obtain⟨x0,x1,x2,x3,x4,y0,y1,y2,g0,g1,g2,g3,g4,k0,k1,k2⟩:=tc;have ae:¬ w.heap.size=z.heap.size+1:=by have:=K.out;omega
  have ad:¬ z.heap.size+1=w.heap.size:=by have:=K.out;omega
  have ab:¬ w.heap.size=z.heap.size:=by have:=K.out;omega
  have aa:¬ z.heap.size=w.heap.size:=by have:=K.out;omega
  go_wp2;go_region;go_wp2_with fail;refine bodyPost_ret (Em _ Y.c rfl rfl _ _ _ _ _ _ _ _ ⟨rfl,rfl,rfl,rfl,rfl,rfl,rfl,rfl⟩) rfl ?_;exact mH.no EN (qC (ww B5 lr _ _ _ _ _ _ _ _)) HC.out
 | some r=>
  obtain⟨t,l1,n1⟩:=r;rw[hr] at D;obtain⟨T,m1,rfl,hT,af,ac,av,ap,ao,aj,ax⟩:=D;have HT:=fH hT;have HR:=fH hr;have am:=fH af;have ah:Hid (T.ht<=32):=by show _<=_;omega
  have ag:Hid (T.cnt<=64):=by show _<=_;omega
  obtain⟨I,F⟩:∃ I,(z.alloc (.cells T.cells.toArray 86)).alloc (.cells #[.string ⟨#[]⟩,.int .i64 0,.int .i64 0] 132)=I:=⟨_,rfl⟩
  have O:Hid (Bw z I):=by rw[<-F];exact(bR.alloc lr _).alloc (by simp) _
  have D4:Hid (fV I z.heap.size T.cells):=by rw[<-F];exact(fV.new z T.cells _).alloc _
  have K4:Hid (fV I (z.heap.size+1) [.string ⟨#[]⟩,.int .i64 0,.int .i64 0]):=by
   have:=fV.new (z.alloc (.cells T.cells.toArray 86)) [.string ⟨#[]⟩,.int .i64 0,.int .i64 0] 132;rw[<-F];show fV _ _ _;simpa using this
  have Y:=fH (T3.below O);have B5:=fH (fM B3 O);have P4:=fH (aj.below O);have O4:=fH ((ac.low O).base (lo':=w.heap.size+2) (by have:=P2.sz;have:=Z2.out;omega));unfold lF fL.val;go_upto_region 3 with(fail)
  have ai:(z.alloc (.cells #[.string T.op,.string T.nm,.int .i64 T.aop,.string T.ver,.slice T.ka T.kids.length T.kc] 86)).alloc (.cells #[.string ⟨#[]⟩,.int .i64 0,.int .i64 0] 132)=I:=F;rw[ai];obtain⟨e0,e1,e2⟩:=qj K4.cell;have tc:=Y.c;obtain⟨x0,x1,x2,x3,x4,y0,y1,y2,g0,g1,g2,g3,g4,k0,k1,k2⟩:=tc;obtain⟨b5,an,c5,P,q,k5,hP,-⟩:=P4.cells;have HP:=fH hP;obtain⟨r0,r1,r2,r3,r4,r5,r6,r7,r8,r9,au⟩:=k5;by_cases Z:bl P=[]
  ·have E1:P.toList=[]:=by rw[fK];exact Z
   have E2:P.toList.isEmpty=true:=by rw[E1];rfl
   have EY:Hid (jt (bl s)=some T.pl):=by show _=_;rw[HT.out];exact M8 HR (by rw[<-HP.out];exact Z)
   obtain⟨d0,d1,d2,d3,d4⟩:=rF D4.cell;go_wp2_with fail;refine bodyPost_ret (Va _ Y.c rfl rfl _ _ _ _ _ _ _ _ ⟨rfl,rfl,rfl,rfl,rfl,rfl,rfl,rfl⟩) rfl ?_;exact mH.yes EY (ww B5 lr _ _ _ _ _ _ _ _) am ((Eh O4 (by omega) _ _ _ _ _ _ _ _).base (by omega)) ah ag.out
  ·have E1:(P.toList==([]:LU))=false:=by rw[fK,bF];exact Z
   have E2:P.toList.isEmpty=false:=by rw[fK,List.isEmpty_eq_false_iff];exact Z
   have E3:¬ P.toList=[]:=by rw[fK];exact Z
   have EN:Hid (jt (bl s)=none):=M7 HR (by rw[<-HP.out];exact Z);go_wp2_with fail;refine mb (lP P q 3 _) ?_;rintro w5 hb;have B6:=fH (fM B5 hb);have T6:=fH (Y.below hb);have K6:=fH (K4.below hb);obtain⟨e0,e1,e2⟩:=qj K6.cell;have h0:=K6.free 0 (by simp);have h1:=K6.free 1 (by simp);have h2:=K6.free 2 (by simp);unfold lF;go_upto_region 5 with(fail)
   obtain⟨W7,J⟩:∃ W7,((w5.setCell ⟨z.heap.size+1,0,none⟩ (.string ⟨#[]⟩)).setCell ⟨z.heap.size+1,1,none⟩ (.int .i64 q)).setCell ⟨z.heap.size+1,2,none⟩ (.int .i64 3)=W7:=⟨_,rfl⟩
   have K7:Hid (fV W7 (z.heap.size+1) [.string ⟨#[]⟩,.int .i64 q,.int .i64 3]):=by rw[<-J];exact((K6.set 0 (by simp) (.string ⟨#[]⟩)).set 1 (by simp) (.int .i64 q)).set 2 (by simp) (.int .i64 3)
   have ha:w.heap.size+1<z.heap.size+1:=by have:=K.out;omega
   have T7:Hid (IR W7 w.heap.size):=by rw[<-J];exact((T6.off (gU _) ha).off (gU _) ha).off (gU _) ha
   have B7:Hid (Bw w W7):=by rw[<-J];exact fO (fO (fO B6 (by omega) _) (by omega) _) (by omega) _
   rw[J];obtain⟨e0,e1,e2⟩:=qj K7.cell;have tc:=T7.c;obtain⟨x0,x1,x2,x3,x4,y0,y1,y2,g0,g1,g2,g3,g4,k0,k1,k2⟩:=tc;have ae:¬ w.heap.size=z.heap.size+1:=by have:=K.out;omega
   have ad:¬ z.heap.size+1=w.heap.size:=by have:=K.out;omega
   have ab:¬ w.heap.size=z.heap.size:=by have:=K.out;omega
   have aa:¬ z.heap.size=w.heap.size:=by have:=K.out;omega
   go_wp2;go_region;go_wp2_with fail;refine bodyPost_ret (Em _ T7.c rfl rfl _ _ _ _ _ _ _ _ ⟨rfl,rfl,rfl,rfl,rfl,rfl,rfl,rfl⟩) rfl ?_;exact mH.no EN (qC (ww B7 lr _ _ _ _ _ _ _ _)) (by decide)
end
section
open Go.RowKit
def AX:LV:=[.slice none 0 0,.string ⟨#[]⟩,.string ⟨#[]⟩,.int .i64 0,.string ⟨#[]⟩,.slice none 0 0,.slice none 0 0]
structure O0 (w wr:World) (v7 v3:LV):Prop where
 bel:Bw w wr
 r:fV wr w.heap.size AX
 t:fV wr (w.heap.size+1) v7
 f:fV wr (w.heap.size+2) v3
theorem O0.step {v7 v3:LV}(h:O0 w wr v7 v3)(z:Bw wr w'):O0 w w' v7 v3:=⟨fM h.bel z,h.r.below z,h.t.below z,h.f.below z⟩
theorem O0.start (w:World):O0 w (((w.alloc (.cells #[.slice none 0 0,.string ⟨#[]⟩,.string ⟨#[]⟩,.int .i64 0,.string ⟨#[]⟩,.slice none 0 0,.slice none 0 0] 89)).alloc (.cells #[.slice none 0 0,.string ⟨#[]⟩,.string ⟨#[]⟩,.int .i64 0,.string ⟨#[]⟩,.slice none 0 0,.slice none 0 0] 89)).alloc (.cells #[.string ⟨#[]⟩,.int .i64 0,.int .i64 0] 132)) AX [.string ⟨#[]⟩,.int .i64 0,.int .i64 0]:=by
 refine⟨((bR.alloc lr _).alloc (by simp) _).alloc (by simp;omega) _,((fV.new w AX _).alloc _).alloc _,?_,?_⟩
 ·have:=fV.new (w.alloc (.cells #[.slice none 0 0,.string ⟨#[]⟩,.string ⟨#[]⟩,.int .i64 0,.string ⟨#[]⟩,.slice none 0 0,.slice none 0 0] 89)) AX 89;rw[show(w.alloc (.cells #[.slice none 0 0,.string ⟨#[]⟩,.string ⟨#[]⟩,.int .i64 0,.string ⟨#[]⟩,.slice none 0 0,.slice none 0 0] 89)).heap.size=w.heap.size+1 by simp] at this;exact this.alloc _
 ·have:=fV.new ((w.alloc (.cells #[.slice none 0 0,.string ⟨#[]⟩,.string ⟨#[]⟩,.int .i64 0,.string ⟨#[]⟩,.slice none 0 0,.slice none 0 0] 89)).alloc (.cells #[.slice none 0 0,.string ⟨#[]⟩,.string ⟨#[]⟩,.int .i64 0,.string ⟨#[]⟩,.slice none 0 0,.slice none 0 0] 89)) [.string ⟨#[]⟩,.int .i64 0,.int .i64 0] 132;rw[show((w.alloc (.cells #[.slice none 0 0,.string ⟨#[]⟩,.string ⟨#[]⟩,.int .i64 0,.string ⟨#[]⟩,.slice none 0 0,.slice none 0 0] 89)).alloc (.cells #[.slice none 0 0,.string ⟨#[]⟩,.string ⟨#[]⟩,.int .i64 0,.string ⟨#[]⟩,.slice none 0 0,.slice none 0 0] 89)).heap.size=w.heap.size+2 by simp] at this;exact this
theorem O0.cells {a0 a1 a2 a3 a4 a5 a6 b0 b1 b2:Value}(h:O0 w wr [a0,a1,a2,a3,a4,a5,a6] [b0,b1,b2]):
  (wr.cell? ⟨w.heap.size+1,0,none⟩=some a0/\wr.cell? ⟨w.heap.size+1,1,none⟩=some a1/\wr.cell? ⟨w.heap.size+1,2,none⟩=some a2/\wr.cell? ⟨w.heap.size+1,3,none⟩=some a3/\wr.cell? ⟨w.heap.size+1,4,none⟩=some a4/\wr.cell? ⟨w.heap.size+1,5,none⟩=some a5/\wr.cell? ⟨w.heap.size+1,6,none⟩=some a6) /\
  (wr.cell? ⟨w.heap.size+2,0,none⟩=some b0/\wr.cell? ⟨w.heap.size+2,1,none⟩=some b1/\wr.cell? ⟨w.heap.size+2,2,none⟩=some b2) /\
  (wr.cell? ⟨w.heap.size,0,none⟩=some (.slice none 0 0)/\wr.cell? ⟨w.heap.size,1,none⟩=some (.string ⟨#[]⟩)/\wr.cell? ⟨w.heap.size,2,none⟩=some (.string ⟨#[]⟩)/\wr.cell? ⟨w.heap.size,3,none⟩=some (.int .i64 0)/\wr.cell? ⟨w.heap.size,4,none⟩=some (.string ⟨#[]⟩)/\wr.cell? ⟨w.heap.size,5,none⟩=some (.slice none 0 0)/\wr.cell? ⟨w.heap.size,6,none⟩=some (.slice none 0 0)) /\
  (∀ j,j<7->wr.frozen? ⟨w.heap.size+1,j,none⟩=false)/\(∀ j,j<3->wr.frozen? ⟨w.heap.size+2,j,none⟩=false)/\(∀ j,j<7->wr.frozen? ⟨w.heap.size,j,none⟩=false):=
 ⟨⟨h.t.cell 0 _ rfl,h.t.cell 1 _ rfl,h.t.cell 2 _ rfl,h.t.cell 3 _ rfl,h.t.cell 4 _ rfl,h.t.cell 5 _ rfl,h.t.cell 6 _ rfl⟩,⟨h.f.cell 0 _ rfl,h.f.cell 1 _ rfl,h.f.cell 2 _ rfl⟩,
  ⟨h.r.cell 0 _ rfl,h.r.cell 1 _ rfl,h.r.cell 2 _ rfl,h.r.cell 3 _ rfl,h.r.cell 4 _ rfl,h.r.cell 5 _ rfl,h.r.cell 6 _ rfl⟩,fun j z=>h.t.free j z,fun j z=>h.f.free j z,fun j z=>h.r.free j z⟩
abbrev VH (wr:World) (b:Nat) (v0 v1 v2 v3 v4 v5 v6:Value):World:=((((((wr.setCell ⟨b,0,none⟩ v0).setCell ⟨b,1,none⟩ v1).setCell ⟨b,2,none⟩ v2).setCell ⟨b,3,none⟩ v3).setCell ⟨b,4,none⟩ v4).setCell ⟨b,5,none⟩ v5).setCell ⟨b,6,none⟩ v6
abbrev Q6 (wr:World) (b:Nat) (v0 v1 v2:Value):World:=((wr.setCell ⟨b,0,none⟩ v0).setCell ⟨b,1,none⟩ v1).setCell ⟨b,2,none⟩ v2
abbrev NP (wr:World) (b:Nat) (v0 v1 v2 v3 v4:Value):World:=((((wr.setCell ⟨b,1,none⟩ v0).setCell ⟨b,2,none⟩ v1).setCell ⟨b,3,none⟩ v2).setCell ⟨b,4,none⟩ v3).setCell ⟨b,5,none⟩ v4
theorem wG (h:Below n w wr)(J:n<=b)(I H D z M K F:Value):Below n w (VH wr b I H D z M K F):=by
 unfold VH;repeat' refine fO ?_ J _
 exact h
theorem wH (h:Below n w wr)(H:n<=b)(F D z:Value):Below n w (Q6 wr b F D z):=by
 unfold Q6;repeat' refine fO ?_ H _
 exact h
theorem NQ (h:Below n w wr)(J:n<=b)(H F D z I:Value):Below n w (NP wr b H F D z I):=by
 unfold NP;repeat' refine fO ?_ J _
 exact h
theorem KZ (wr:World)(b j:Nat)(v:Value):wr.grownBy (wr.setCell ⟨b,j,none⟩ v) (some b):=fX (World.grownBy.refl wr (some b)) (.inl rfl) _
theorem K9 (wr:World)(b:Nat)(I H D z J K F:Value):wr.grownBy (VH wr b I H D z J K F) (some b):=by
 unfold VH;repeat' refine fX ?_ (.inl rfl) _
 exact World.grownBy.refl wr (some b)
theorem vc (wr:World)(b:Nat)(F D z:Value):wr.grownBy (Q6 wr b F D z) (some b):=by
 unfold Q6;repeat' refine fX ?_ (.inl rfl) _
 exact World.grownBy.refl wr (some b)
theorem NS (wr:World)(b:Nat)(H F D z I:Value):wr.grownBy (NP wr b H F D z I) (some b):=by
 unfold NP;repeat' refine fX ?_ (.inl rfl) _
 exact World.grownBy.refl wr (some b)
theorem Q9 {tmps:Array Value}(h:fV W b AX)(ht:tmps[4]?=some (.pointer (some ⟨b,0,none⟩))){k:Int}(H:tmps[5]?=some (.int .i64 k))(A:OA)(n c:Nat)(F D:BA)(i:Int)(z:BA)(B:OA)(m d:Nat)(C:OA)(p q:Nat):
  (results Tryz.f31 tmps).run prog (VH W b (.slice A n c) (.string F) (.string D) (.int .i64 i) (.string z) (.slice B m d) (.slice C p q)).drew =
   .ok (.tuple #[.agg #[.slice A n c,.string F,.string D,.int .i64 i,.string z,.slice B m d,.slice C p q],.int .i64 k]) (VH W b (.slice A n c) (.string F) (.string D) (.int .i64 i) (.string z) (.slice B m d) (.slice C p q)).drew:=by
 obtain⟨R,O,I,M,J,U,K⟩:=cF7 h.cell;simp(maxDischargeDepth:=10) [results,results31,ht,H,go_sem,R,O,I,M,J,U,K]
def zO (A:OA)(n c:Nat)(T:fL)(B:OA)(m d:Nat):Value:=.agg #[.slice A n c,.string T.op,.string T.nm,.int .i64 T.aop,.string T.ver,.slice T.ka T.kids.length T.kc,.slice B m d]
def Tx1 (s:LU)(w:World)(code:Int)(A:OA)(n:Nat):Prop:=match jV s with
 | none=>code≠0
 | some L=>code=0/\∃ gs:List gA,gs.map gA.pl=L/\gs.length=n/\rQ w A gs/\DA gs/\vm gs
def Tx2 (s:LU)(w:World)(code:Int)(T:fL):Prop:=match jt s with
 | none=>code≠0
 | some t=>code=0/\T.pl=t/\He w T/\T.cnt<=64/\jR T
def Tx3 (s:LU)(w:World)(code:Int)(B:OA)(m:Nat):Prop:=match jL s with
 | none=>code≠0
 | some L=>code=0/\m=L.length/\Rd w 4 B m (L.flatMap jP.cells)/\L.length<=64/\∀ x∈L,x.right
theorem lf.base {gs:List gA}(h:lf w lo A n c gs)(z:lo'<=lo):lf w lo' A n c gs:=⟨h.len,gF h.row z,fun g D=>(h.grp g D).base z⟩
structure ado (fmt:Int) (s:LU) (lo:Nat) (w:World) (A:OA) (n c:Nat) (T:fL) (B:OA) (m d:Nat):Prop where
 grp:∀ L,fmt=1->jV s=some L->∃ gs:List gA,gs.map gA.pl=L/\lf w lo A n c gs
 rch:∀ t,fmt=2->jt s=some t->iD w lo none T
 wnt:∀ L,fmt=3->jL s=some L->w.ownsRow lo 142 4 (.slice B m d) m (L.flatMap jP.cells)
def yg (fmt:Int)(s:LU)(w:World)(e:Ending)(w':World):Prop:=
 ∃ (A:OA) (n c:Nat) (T:fL) (B:OA) (m d:Nat) (code:Int),e=.returned (.tuple #[zO A n c T B m d,.int .i64 code])/\Bw w w' /\
  (fmt=1->Tx1 s w' code A n)/\(fmt=2->Tx2 s w' code T)/\(fmt=3->Tx3 s w' code B m)/\ado fmt s w.heap.size w' A n c T B m d
theorem Fx (s:BA)(w:World)(hG:Gl w)(hs:s.size<=1000000):Calls prog 31 #[.int .i64 1,.string s] w (yg 1 (bl s) w):=by
 have HG:=fH hG;obtain⟨K,H⟩:∃ K,((w.alloc (.cells #[.slice none 0 0,.string ⟨#[]⟩,.string ⟨#[]⟩,.int .i64 0,.string ⟨#[]⟩,.slice none 0 0,.slice none 0 0] 89)).alloc (.cells #[.slice none 0 0,.string ⟨#[]⟩,.string ⟨#[]⟩,.int .i64 0,.string ⟨#[]⟩,.slice none 0 0,.slice none 0 0] 89)).alloc (.cells #[.string ⟨#[]⟩,.int .i64 0,.int .i64 0] 132)=K:=⟨_,rfl⟩
 have R:Hid (O0 w K AX [.string ⟨#[]⟩,.int .i64 0,.int .i64 0]):=by show O0 _ _ _ _;rw[<-H];exact O0.start w
 have ag:w.heap.size+3=K.heap.size:=by rw[<-H];simp
 clear hG;go_in;go_wp2_with fail;clear H;refine(DB s K (HG.below R.bel) (by omega)).mono ?_;rintro e Y ⟨A,n,c,f,x,z,rfl,M,I⟩;have V:=fH (R.step M);have HM:=fH I;clear M I R;unfold lF;obtain⟨⟨t0,t1,t2,t3,t4,t5,t6⟩,⟨f0,f1,f2⟩,⟨r0,r1,r2,r3,r4,r5,r6⟩,D,O,F⟩:=V.cells;have ah:=D 0 (by omega);have ak:=D 1 (by omega);have ap:=D 2 (by omega);have am:=D 3 (by omega);have ab:=D 4 (by omega);have af:=D 5 (by omega);have an:=D 6 (by omega);have aj:=O 0 (by omega);have aq:=O 1 (by omega);have ar:=O 2 (by omega);have ae:=F 0 (by omega);have ac:=F 1 (by omega);have ai:=F 2 (by omega);have aa:=F 3 (by omega);have al:=F 4 (by omega);have ao:=F 5 (by omega);have ad:=F 6 (by omega);clear D O F;go_wp2;go_region;go_wp2_with fail;refine bodyPost_ret (Q9 (W:=Q6 (Y.setCell ⟨w.heap.size+1,0,none⟩ (.slice A n c)) (w.heap.size+2) (.string f) (.int .i64 x) (.int .i64 z)) ?_ rfl rfl A n c ⟨#[]⟩ ⟨#[]⟩ 0 ⟨#[]⟩ none 0 0 none 0 0) rfl ?_
 ·exact((V.r.grownBy (KZ _ _ _ _) (by simp)).grownBy (vc _ _ _ _ _) (by simp))
 refine⟨A,n,c,rW,none,0,0,z,rfl,(wG (wH (fO V.bel (by omega) _) (by omega) _ _ _) lr _ _ _ _ _ _ _).drew,?_⟩;have I:=HM.out;cases hd:jV (bl s) with
 | none=>rw[hd] at I;exact⟨fun _=>by unfold Tx1;rw[hd];exact I.1,fun h=>absurd h (by decide),fun h=>absurd h (by decide),fun L _ h=>(by rw[hd] at h;cases h),fun _ h=>absurd h (by decide),fun _ h=>absurd h (by decide)⟩
 | some L=>
  rw[hd] at I;obtain⟨h0,U,J,Z⟩:=I;have k1:=Z.kept (g:=w.heap.size+1) (by omega) (KZ Y (w.heap.size+1) 0 (.slice A n c));have k2:=k1.kept (g:=w.heap.size+2) (by omega) (vc _ (w.heap.size+2) (.string f) (.int .i64 x) (.int .i64 z));have k3:=k2.kept (g:=w.heap.size) (by omega) (K9 _ w.heap.size (.slice A n c) (.string ⟨#[]⟩) (.string ⟨#[]⟩) (.int .i64 0) (.string ⟨#[]⟩) (.slice none 0 0) (.slice none 0 0));have X:lf _ w.heap.size A n c U:=(k3.below (qC bR)).base (by omega);exact⟨fun _=>by unfold Tx1;rw[hd];exact⟨h0,U,J,Z.len,X.ok,X.cap,vm.of (by rw[J];exact sO hd (by rw[fI];omega))⟩,fun h=>absurd h (by decide),fun h=>absurd h (by decide),fun L' _ h=>(by rw[hd] at h;injection h with h;subst h;exact⟨U,J,X⟩),fun _ h=>absurd h (by decide),fun _ h=>absurd h (by decide)⟩
theorem Fy (s:BA)(w:World)(X:Gl w)(hs:s.size<=1000000):Calls prog 31 #[.int .i64 2,.string s] w (yg 2 (bl s) w):=by
 have HG:=fH X;obtain⟨J,H⟩:∃ J,((w.alloc (.cells #[.slice none 0 0,.string ⟨#[]⟩,.string ⟨#[]⟩,.int .i64 0,.string ⟨#[]⟩,.slice none 0 0,.slice none 0 0] 89)).alloc (.cells #[.slice none 0 0,.string ⟨#[]⟩,.string ⟨#[]⟩,.int .i64 0,.string ⟨#[]⟩,.slice none 0 0,.slice none 0 0] 89)).alloc (.cells #[.string ⟨#[]⟩,.int .i64 0,.int .i64 0] 132)=J:=⟨_,rfl⟩
 have R:Hid (O0 w J AX [.string ⟨#[]⟩,.int .i64 0,.int .i64 0]):=by show O0 _ _ _ _;rw[<-H];exact O0.start w
 have af:w.heap.size+3=J.heap.size:=by rw[<-H];simp
 clear X;go_in;go_wp2_with fail;clear H;refine(En s J (HG.below R.bel) hs).mono ?_;rintro e V ⟨T,f,x,z,rfl,K,I⟩;have U:=fH (R.step K);have HM:=fH I;clear K I R;unfold lF;obtain⟨⟨t0,t1,t2,t3,t4,t5,t6⟩,⟨f0,f1,f2⟩,⟨r0,r1,r2,r3,r4,r5,r6⟩,D,M,F⟩:=U.cells;have ag:=D 0 (by omega);have aj:=D 1 (by omega);have ao:=D 2 (by omega);have al:=D 3 (by omega);have aa:=D 4 (by omega);have ae:=D 5 (by omega);have am:=D 6 (by omega);have ai:=M 0 (by omega);have ap:=M 1 (by omega);have aq:=M 2 (by omega);have ad:=F 0 (by omega);have ab:=F 1 (by omega);have ah:=F 2 (by omega);have Z:=F 3 (by omega);have ak:=F 4 (by omega);have an:=F 5 (by omega);have ac:=F 6 (by omega);clear D M F;unfold fL.val;go_wp2;go_region;go_wp2_with fail;refine bodyPost_ret (Q9 (W:=Q6 (NP V (w.heap.size+1) (.string T.op) (.string T.nm) (.int .i64 T.aop) (.string T.ver) (.slice T.ka T.kids.length T.kc)) (w.heap.size+2) (.string f) (.int .i64 x) (.int .i64 z)) ?_ rfl rfl none 0 0 T.op T.nm T.aop T.ver T.ka T.kids.length T.kc none 0 0) rfl ?_
 ·exact((U.r.grownBy (NS _ _ _ _ _ _ _) (by simp)).grownBy (vc _ _ _ _ _) (by simp))
 refine⟨none,0,0,T,none,0,0,z,rfl,(wG (wH (NQ U.bel (by omega) _ _ _ _ _) (by omega) _ _ _) lr _ _ _ _ _ _ _).drew,?_⟩;have I:=HM.out;cases hd:jt (bl s) with
 | none=>rw[hd] at I;exact⟨fun h=>absurd h (by decide),fun _=>by unfold Tx2;rw[hd];exact I.1,fun h=>absurd h (by decide),fun _ h=>absurd h (by decide),fun L _ h=>(by rw[hd] at h;cases h),fun _ h=>absurd h (by decide)⟩
 | some t=>
  rw[hd] at I;obtain⟨h0,hT,O,hO,_,hc⟩:=I;have k1:=hO.kept (g:=w.heap.size+1) (by omega) (NS V (w.heap.size+1) (.string T.op) (.string T.nm) (.int .i64 T.aop) (.string T.ver) (.slice T.ka T.kids.length T.kc));have k2:=k1.kept (g:=w.heap.size+2) (by omega) (vc _ (w.heap.size+2) (.string f) (.int .i64 x) (.int .i64 z));have k3:=k2.kept (g:=w.heap.size) (by omega) (K9 _ w.heap.size (.slice none 0 0) (.string T.op) (.string T.nm) (.int .i64 T.aop) (.string T.ver) (.slice T.ka T.kids.length T.kc) (.slice none 0 0));have Y:iD _ w.heap.size none T:=(k3.low (qC bR)).base (by omega);exact⟨fun h=>absurd h (by decide),fun _=>by unfold Tx2;rw[hd];exact⟨h0,hT,Y.rd,hc,O⟩,fun h=>absurd h (by decide),fun _ h=>absurd h (by decide),fun _ _ _=>Y,fun _ h=>absurd h (by decide)⟩
theorem Fz (s:BA)(w:World)(X:Mt w)(hs:s.size<=1000000):Calls prog 31 #[.int .i64 3,.string s] w (yg 3 (bl s) w):=by
 have HG:=fH X;obtain⟨J,H⟩:∃ J,((w.alloc (.cells #[.slice none 0 0,.string ⟨#[]⟩,.string ⟨#[]⟩,.int .i64 0,.string ⟨#[]⟩,.slice none 0 0,.slice none 0 0] 89)).alloc (.cells #[.slice none 0 0,.string ⟨#[]⟩,.string ⟨#[]⟩,.int .i64 0,.string ⟨#[]⟩,.slice none 0 0,.slice none 0 0] 89)).alloc (.cells #[.string ⟨#[]⟩,.int .i64 0,.int .i64 0] 132)=J:=⟨_,rfl⟩
 have O:Hid (O0 w J AX [.string ⟨#[]⟩,.int .i64 0,.int .i64 0]):=by show O0 _ _ _ _;rw[<-H];exact O0.start w
 have af:w.heap.size+3=J.heap.size:=by rw[<-H];simp
 clear X;go_in;go_wp2_with fail;clear H;refine(Dy s J (HG.below O.bel) (by omega)).mono ?_;rintro e U ⟨A,n,c,f,x,z,rfl,K,I⟩;have R:=fH (O.step K);have HM:=fH I;clear K I O;unfold lF;obtain⟨⟨t0,t1,t2,t3,t4,t5,t6⟩,⟨f0,f1,f2⟩,⟨r0,r1,r2,r3,r4,r5,r6⟩,D,M,F⟩:=R.cells;have ag:=D 0 (by omega);have aj:=D 1 (by omega);have ao:=D 2 (by omega);have al:=D 3 (by omega);have aa:=D 4 (by omega);have ae:=D 5 (by omega);have am:=D 6 (by omega);have ai:=M 0 (by omega);have ap:=M 1 (by omega);have aq:=M 2 (by omega);have ad:=F 0 (by omega);have ab:=F 1 (by omega);have ah:=F 2 (by omega);have Z:=F 3 (by omega);have ak:=F 4 (by omega);have an:=F 5 (by omega);have ac:=F 6 (by omega);clear D M F;go_wp2;go_region;go_wp2_with fail;refine bodyPost_ret (Q9 (W:=Q6 (U.setCell ⟨w.heap.size+1,6,none⟩ (.slice A n c)) (w.heap.size+2) (.string f) (.int .i64 x) (.int .i64 z)) ?_ rfl rfl none 0 0 ⟨#[]⟩ ⟨#[]⟩ 0 ⟨#[]⟩ none 0 0 A n c) rfl ?_
 ·exact((R.r.grownBy (KZ _ _ _ _) (by simp)).grownBy (vc _ _ _ _ _) (by simp))
 refine⟨none,0,0,rW,A,n,c,z,rfl,(wG (wH (fO R.bel (by omega) _) (by omega) _ _ _) lr _ _ _ _ _ _ _).drew,?_⟩;have I:=HM.out;cases hd:jL (bl s) with
 | none=>rw[hd] at I;exact⟨fun h=>absurd h (by decide),fun h=>absurd h (by decide),fun _=>by unfold Tx3;rw[hd];exact I.1,fun _ h=>absurd h (by decide),fun _ h=>absurd h (by decide),fun L _ h=>(by rw[hd] at h;cases h)⟩
 | some L=>
  rw[hd] at I;obtain⟨h0,hn,hO⟩:=I;have k1:=gZ (g:=w.heap.size+1) hO (by omega) (KZ U (w.heap.size+1) 6 (.slice A n c));have k2:=gZ (g:=w.heap.size+2) k1 (by omega) (vc _ (w.heap.size+2) (.string f) (.int .i64 x) (.int .i64 z));have k3:=gZ (g:=w.heap.size) k2 (by omega) (K9 _ w.heap.size (.slice none 0 0) (.string ⟨#[]⟩) (.string ⟨#[]⟩) (.int .i64 0) (.string ⟨#[]⟩) (.slice none 0 0) (.slice A n c));have V:=tP ((bl s).length+1) 0 (bl s) L (by omega) hd;have Y:=gF (base':=w.heap.size) (ge k3 (qC bR)) (by omega);exact⟨fun h=>absurd h (by decide),fun h=>absurd h (by decide),fun _=>by unfold Tx3;rw[hd];exact⟨h0,hn,gR Y,by have:=V.2;omega,V.1⟩,fun _ h=>absurd h (by decide),fun _ h=>absurd h (by decide),fun L' _ h=>(by have h2:=Option.some.inj (hd.symm.trans h);exact h2 ▸ Y)⟩
end
end Go.Proofs.YtkmjcombhjombaaGreatDoor
