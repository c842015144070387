/- A part of the proof. -/
import Derived.Test.YtkmjcombhjombaaGreatDoorK16
set_option maxRecDepth 100000
set_option maxHeartbeats 20000000
set_option linter.unusedVariables false
set_option linter.unusedSimpArgs false
namespace Go.Proofs.YtkmjcombhjombaaGreatDoor
variable{s:BA}{a b c':Int}{l:LU}{xs:List Value}{B c cc g i k kb m mb n n' p' sz:Nat}{T:Nat->Prop}{A:Option Addr}{e:TypeId}{v:Value}{w w' w2 wr:World}
section
open Go.RowKit Go.Deep
structure JA (w wr:World) (a:Nat) (s:BA) (k n:Nat) (c:Int) (gs:List jE) (A:Option Addr) (m cc:Nat):Prop where
 len:gs.length=m
 row:wr.ownsRow w.heap.size 198 1 (.slice A m cc) m (gs.map jE.sl)
 grp:∀ g∈gs,g.own wr w.heap.size
 dr:DR wr a s k n c
 gr:w.grownBy wr (some a)
 lt:a<w.heap.size
theorem JA.step {a:Nat}{k':Nat}{c:Int}{gs:List jE}(h:JA w wr a s k n c gs A m cc)(hg:wr.grownBy w' (some a))(hd:DR w' a s k' n' c'):JA w w' a s k' n' c' gs A m cc:=
 ⟨h.len,jS h.row h.lt hg,fun t ht=>(h.grp t ht).kept h.lt hg,hd,ja h.gr hg,h.lt⟩
theorem JA.below {a:Nat}{c:Int}{gs:List jE}(h:JA w wr a s k n c gs A m cc)(hb:Below wr.heap.size wr w'):JA w w' a s k n c gs A m cc:=
 h.step (mS hb _) (h.dr.below hb)
theorem JA.alloc {a:Nat}{c:Int}{gs:List jE}(h:JA w wr a s k n c gs A m cc)(o:Obj):JA w (wr.alloc o) a s k n c gs A m cc:=h.below (bR.alloc lr o)
theorem JA.drewN {a:Nat}{c:Int}{gs:List jE}(h:JA w wr a s k n c gs A m cc)(j:Nat):JA w (wr.drewN j) a s k n c gs A m cc:=h.below ⟨rfl,rfl,rfl,lr,fun _ _=>rfl⟩
theorem jE.own.other {lo:Nat}{G:jE}{lo':Nat}{z:Nat}(h:G.own w lo)(h2:w.ownsRow lo' 198 z v n xs)(hg:w.grownBy w2 v.ownBlock):G.own w2 lo:=
 ⟨jH h.row h2 (by decide) hg,fun t ht=>jH (h.archs t ht) h2 (by decide) hg⟩
theorem JA.grow {a:Nat}{c:Int}{gs:List jE}{A1:Option Addr}{c1:Nat}{o:Obj}{G:jE}(h:JA w wr a s k n c gs A m cc)(hG:G.own wr w.heap.size)
  (hr:w2.ownsRow w.heap.size 198 1 (.slice A1 (m+1) c1) (m+1) (gs.map jE.sl++[G.sl]))
  (hg:(wr.alloc o).grownBy w2 (Value.slice A m cc).ownBlock):JA w w2 a s k n c (gs++[G]) A1 (m+1) c1:=by
 have y:=h.alloc o;have z:G.own (wr.alloc o) w.heap.size:=hG.below (bR.alloc lr o);refine⟨by simp[h.len],by rw[List.map_append];simpa using hr,fun t ht=>?_,y.dr.kept hg ?_,qw y.gr hg (fun j D=>(h.row.lt j D).1),h.lt⟩
 ·rcases List.mem_append.1 ht with ht | ht
  ·exact(y.grp t ht).other y.row hg
  ·obtain rfl:=List.mem_singleton.1 ht;exact z.other y.row hg
 ·intro e;have:=(h.row.lt a e.symm).1;have:=h.lt;omega
def OA (L:List (List kP)):Nat:=(L.map List.length).sum
theorem SV (L:List (List kP))(g:List kP):OA (L++[g])=OA L+g.length:=by simp[OA]
theorem VN (L:List (List kP)):Bl L=true↔L.all (fun g=>g.all kP.right)=true/\OA L<=64:=by unfold Bl OA;simp
def oL (r:Option (List (List kP)))(a:Nat)(s:BA)(w:World)(e:Ending)(w':World):Prop:=
 match r with
  | none=>w.grownBy w' (some a)/\e=.returned (.tuple #[.slice none 0 0,.bool false])/\∃ (p' n':Nat) (c':Int),DR w' a s p' n' c'
  | some L=>∃ (A:Option Addr) (m cc:Nat) (gs:List jE) (p' n':Nat) (c':Int),e=.returned (.tuple #[.slice A m cc,.bool true])/\JA w w' a s p' n' c' gs A m cc/\gs.map jE.pl=L/\(c'=0↔Bl L=true)
theorem oL.no {r:Option (List (List kP))}{a:Nat}(hr:r=none)(hg:w.grownBy w' (some a))(h:DR w' a s p' n' c'):oL r a s w (.returned (.tuple #[.slice none 0 0,.bool false])) w':=by
 subst hr;exact⟨hg,rfl,p',n',c',h⟩
theorem oL.yes {r:Option (List (List kP))}{a:Nat}{gs:List jE}(hr:r=some (gs.map jE.pl))(h:JA w w' a s p' n' c' gs A m cc)(hc:c'=0↔Bl (gs.map jE.pl)=true):oL r a s w (.returned (.tuple #[.slice A m cc,.bool true])) w':=by
 subst hr;exact⟨A,m,cc,gs,p',n',c',rfl,h,rfl,hc⟩
theorem OC (a:Nat)(s:BA)(w:World)(hs:s.size<=4294967280)(hG:zq a w)(h:DR w a s 0 0 0):Calls Tryz.prog 92 #[.pointer (some ⟨a,0,none⟩)] w (oL (tn (bl s)) a s w):=by
 obtain⟨i0,ao,az,ap,au⟩:=info_parts Ll;have HG:=iV hG;obtain⟨q,hq⟩:∃ q,0+jo jN ((bl s).drop 0)=q:=⟨_,rfl⟩
 have hB:=jx a s 0 0 0 w hs h;rw[hq] at hB;have SK:Hid (jq (bl s)=(bl s).drop q):=by have:=kW s 0;rw[hq,List.drop_zero] at this;exact this
 have ax:=h.sz;generalize N:tn (bl s)=RR;clear hG h hq;go_in;go_wp2_with fail;refine hB.mono ?_;rintro e w1 ⟨rfl,y,D⟩;have S1:Hid (JA w w1 a s q 0 0 [] none 0 0):=⟨rfl,World.ownsRow_nil _ _ _ _,by simp,y,D,ax⟩
 have aA:=y.le;obtain⟨f1,y1,Y⟩:=y.cells;have c0:=Y.c0;have c1:=Y.c1;clear y D hB Y;by_cases ak:q=s.size
 ·have M:Hid (RR=some (([]:List jE).map jE.pl)):=by
   show _=_;rw[<-N];unfold tn;rw[SK.out,tp s q (by omega)];rfl
  subst ak;clear N;go_wp2;go_quiet (fail);go_wp2;go_ret2;exact oL.yes M.out (S1.out.drewN _) (by simp[Bl])
 ·have ab:q<s.size:=by omega
  have E0:Hid (RR=mR (s.size+1) [] ((bl s).drop q)):=by
   show _=_;rw[<-N];unfold tn;rw[SK.out,<-CS,iX,if_neg];rw[mL s q ab];simp
  have ar:((q:Int)==(s.size:Int))=false:=by simp;omega
  have af:Hid (s.size-q<=s.size):=by show _<=_;omega
  clear N SK;go_wp2;go_quiet (fail);clear c0 c1 ar ak;have I:=iV (S1.out.drewN nq);clear S1;go_wp2;go_loopw [2,3,4] (fun s2 s3 l wr=>∃ (k m cc f K:Nat) (c':Int) (H:List jE) (A:Option Addr),s2=.slice none 0 0/\s3=.bool false/\l=.slice A m cc/\k<=s.size/\m<=k/\Hid (JA w wr a s k K c' H A m cc)/\Hid (RR=mR (f+1) (H.map jE.pl) ((bl s).drop k))/\Hid (s.size-k<=f)/\Hid (K=OA (H.map jE.pl))/\Hid (c'=0↔(H.map jE.pl).all (fun g=>g.all kP.right)=true/\K<=64)) (fun _ _ _ wr=>s.size-Jt a wr)
  case atStart=>exact⟨q,0,0,s.size,0,0,[],none,rfl,rfl,rfl,aA,z0,I,E0,af,rfl,by show _↔_;simp⟩
  case round=>
   clear I E0 af;obtain⟨k,m,cc,f,K,c',H,A,rfl,rfl,rfl,hk,aD,HS,HE,HF,HN,HC⟩:=hrel;have aj:Hid (c'=0->K<=64):=by have:=HC.out;show _->_;intro h;exact(this.1 h).2
   have al:Hid (s.size-k<((bl s).drop k).length+1):=by show _<_;rw[List.length_drop,iX];omega
   go_wp2_with fail;refine(Oz _ a s k K c' wr hs al.out (HG.out.kept HS.out.gr) HS.out.dr aj.out).mono ?_;rintro e w2 ⟨D,z⟩;cases ht:mZ (((bl s).drop k).length+1) ((bl s).drop k) with
   | none=>
    rw[ht] at z;obtain⟨rfl,F,m',O,y⟩:=z;have I:=iV (HS.out.step D y);clear y D;have M:Hid (RR=none):=by show _=_;rw[HE.out];exact Gi ht
    clear ht;go_wp2;go_ret2;exact oL.no M.out I.out.gr I.out.dr
   | some x=>
    obtain⟨g,r⟩:=x;rw[ht] at z;obtain⟨G,F,O,rfl,J,ac,y,an,ae,ai⟩:=z;have I:=iV (HS.out.step D y);have aq:=iV (ac.base (lo':=w.heap.size) HS.out.gr.size);have aC:=y.le;have N2:Hid (K+g.length=OA ((H++[G]).map jE.pl)):=by
     have:=HN.out;show _=_;rw[List.map_append,List.map_cons,List.map_nil,SV,J];omega
    have C2:Hid (O=0↔((H++[G]).map jE.pl).all (fun g=>g.all kP.right)=true/\K+g.length<=64):=by
     have h1:=HC.out;show _↔_;rw[ai,h1,List.map_append,List.all_append];simp only[List.map_cons,List.map_nil,List.all_cons,List.all_nil,Bool.and_true,Bool.and_eq_true,J];constructor
     ·rintro⟨⟨a1,a2⟩,a3,a4⟩;exact⟨⟨a1,a3⟩,a4⟩
     ·rintro⟨⟨a1,a3⟩,a4⟩;exact⟨⟨a1,by omega⟩,a3,a4⟩
    have HD:=iV ae;have HT:=iV J;have X:=iV ht;have aE:m<=4294967280:=by omega
    have ah:Hid (k<F):=an;generalize K+g.length=n2 at I N2 C2 y;obtain⟨gl,V⟩:∃ gl,G.ts.length=gl:=⟨_,rfl⟩
    have aB:Hid (G.sl=.slice G.ga gl G.gc):=by show _=_;unfold jE.sl;rw[V]
    rw[V];clear ht J ac y D ae ai an V aj al;go_wp2_with (at_builtin;refine je _ rfl _ _ _ rfl w.heap.size 198 i0 _ 1 24 Tryz.underlying83 ao az ap au rfl (by omega) (.slice A m cc) m _ rfl (I.out.row.alloc _) (w2.heap.size+1) (some ⟨w2.heap.size,0,none⟩) 1 1 [.slice G.ga gl G.gc] rfl (oe w2 _ _) (by simp[Value.oneCell']) (by simp only[maxLen];omega) (by omega) (by simp;have:=I.out.gr.size;omega) ?_;intro v1 w3 o1 g1 a1);obtain⟨A3,c3,rfl⟩:=jk o1;have S3:=iV (I.out.grow (G:=G) aq.out (by rw[aB.out];exact o1) g1);clear o1 g1 a1;obtain⟨f1,y1,Y⟩:=S3.out.dr.cells;have c0:=Y.c0;have c1:=Y.c1;clear Y;by_cases ag:F=s.size
    ·have M:Hid (RR=some ((H++[G]).map jE.pl)):=by
      show _=_;rw[HE.out,Jr (g:=g) (by rw[X.out,<-HD.out,tp s F (by omega)]),List.map_append];simp[HT.out]
     have CF:Hid (O=0↔Bl ((H++[G]).map jE.pl)=true):=by show _↔_;rw[C2.out,VN,N2.out]
     subst ag;go_wp2;go_quiet (fail);go_wp2;go_ret2;exact oL.yes M.out (S3.out.drewN _) CF.out
    ·have av:((F:Int)==(s.size:Int))=false:=by simp;omega
     have RE:Hid (r.isEmpty=false):=by show _=_;rw[<-HD.out,mL s F (by omega)];rfl
     clear ag;go_wp2;go_quiet (fail);have S4:=iV (S3.out.drewN nq);clear c0 c1 av S3;cases hb:jl 44 ((bl s).drop F) with
     | false=>
      have HB:=iV hb;have M:Hid (RR=none):=by show _=_;rw[HE.out];exact Js X.out RE.out (by rw[<-HD.out];exact hb)
      clear hb;go_wp2_with fail;refine(js 44 a s F _ O _ hs S4.out.dr HB).mono ?_;rintro e w4 ⟨rfl,y,D⟩;have S5:=iV (S4.out.step D y);clear y D;go_wp2;go_ret2;exact oL.no M.out S5.out.gr S5.out.dr
     | true=>
      have HB:=iV hb;obtain⟨R,U⟩:∃ R,F+1+jo jN ((bl s).drop (F+1))=R:=⟨_,rfl⟩
      have M:Hid (RR=mR (f-1+1) ((H++[G]).map jE.pl) ((bl s).drop R)):=by
       have hf:=HF.out;have h2:=ah.out;show _=_;rw[HE.out,Gj X.out (by rw[<-HD.out];exact hb),<-HD.out,List.drop_drop,kW,U,List.map_append,show f-1+1=f by omega];simp[HT.out]
      have aa:=iV (fun (W:World) (hD:DR W a s (F+1) n2 O)=>jx a s (F+1) n2 O W hs hD);rw[U] at aa;have Z:Hid (k<R):=by have:=ah.out;show _<_;omega
      have ay:Hid (s.size-R<=f-1):=by have:=HF.out;have:=Z.out;show _<=_;omega
      have am:m+1<=R:=by have:=Z.out;omega
      clear hb U;go_wp2_with fail;refine(jD 44 a s F _ O _ hs S4.out.dr HB).mono ?_;rintro e w4 ⟨rfl,y,D⟩;have S5:=iV (S4.out.step D y);clear y D;go_wp2_with fail;refine(aa.out w4 S5.out.dr).mono ?_;rintro e w5 ⟨rfl,y,D⟩;have S6:=iV (S5.out.step D y);clear y D;have ad:=S6.out.dr.le;go_wp2;go_roundw
      case rel=>exact⟨R,m+1,c3,f-1,n2,O,H++[G],A3,rfl,rfl,rfl,ad,am,S6,M,ay,N2,C2⟩
      case measure=>exact DR.dec S6.out.dr HS.out.dr Z.out
def Dq (gs:List jE):Prop:=∀ g∈gs,∀ t∈g.ts,t.archs.length<=t.ac
theorem SW {lo:Nat}{gs:List jE}(hg:∀ g∈gs,g.own w lo):Dq gs:=fun g y t ht=>uI ((hg g y).archs t ht)
structure nu (w:World) (lo:Nat) (A:Option Addr) (n c:Nat) (gs:List jE):Prop where
 len:gs.length=n
 row:w.ownsRow lo 198 1 (.slice A n c) n (gs.map jE.sl)
 grp:∀ g∈gs,g.own w lo
theorem nu.ok {lo:Nat}{gs:List jE}(h:nu w lo A n c gs):uG w A gs:=
 ⟨by rw[h.len];exact jL h.row,fun g y=>jL (h.grp g y).row,fun g y t ht=>jL ((h.grp g y).archs t ht)⟩
theorem nu.cap {lo:Nat}{gs:List jE}(h:nu w lo A n c gs):Dq gs:=SW h.grp
theorem nu.kept {lo:Nat}{gs:List jE}(h:nu w lo A n c gs)(hg:g<lo)(hw:w.grownBy w' (some g)):nu w' lo A n c gs:=⟨h.len,jS h.row hg hw,fun x y=>(h.grp x y).kept hg hw⟩
theorem nu.below {lo:Nat}{gs:List jE}(h:nu w lo A n c gs)(hb:Below w.heap.size w w'):nu w' lo A n c gs:=⟨h.len,jp h.row hb,fun x y=>(h.grp x y).below hb⟩
def OD (r:Option (List (List kP)))(w:World)(e:Ending)(w':World):Prop:=
 ∃ (A:Option Addr) (n c:Nat) (f:BA) (a code:Int),e=.returned (.tuple #[.slice A n c,nC f a code])/\Below w.heap.size w w' /\
  (match r with
   | some L=>code=0/\∃ gs:List jE,gs.map jE.pl=L/\nu w' w.heap.size A n c gs
   | none=>code≠0/\A=none/\n=0)
theorem Lm (h:tn l=none):mB l=none:=by unfold mB;rw[h]
theorem OE {L:List (List kP)}(h:tn l=some L)(h1:¬ Bl L=true):mB l=none:=by unfold mB;rw[h];simp[h1]
theorem Ln {L:List (List kP)}(h:tn l=some L)(h1:Bl L=true):mB l=some L:=by unfold mB;rw[h];simp[h1]
theorem Ds (s:BA)(w:World)(hG:Gl w)(hs:s.size<=4294967280):Calls Tryz.prog 58 #[.string s] w (OD (mB (bl s)) w):=by
 obtain⟨J,K⟩:∃ J,(w.alloc (.cells #[.string ⟨#[]⟩,.int .i64 0,.int .i64 0] 132)).alloc (.cells #[.string s,.int .i64 0,.int .i64 0,.string ⟨#[]⟩,.int .i64 0,.int .i64 0] 176)=J:=⟨_,rfl⟩
 have B1:Hid (Below w.heap.size w J):=by rw[<-K];exact(bR.alloc lr _).alloc (by simp) _
 have K1:Hid (jh J w.heap.size [.string ⟨#[]⟩,.int .i64 0,.int .i64 0]):=by rw[<-K];exact(jh.new w [.string ⟨#[]⟩,.int .i64 0,.int .i64 0] _).alloc _
 have D1:Hid (DR J (w.heap.size+1) s 0 0 0):=by
  refine⟨⟨⟨#[]⟩,0,?_⟩,z0,lr⟩;have:=jh.new (w.alloc (.cells #[.string ⟨#[]⟩,.int .i64 0,.int .i64 0] 132)) [.string s,.int .i64 0,.int .i64 0,.string ⟨#[]⟩,.int .i64 0,.int .i64 0] 176;rw[<-K];simpa using this
 have HG:Hid (zq (w.heap.size+1) J):=⟨w,hG,B1.out,Nat.le_succ _⟩
 have D:w.heap.size<J.heap.size:=K1.out.sz;clear hG;go_in;go_wp2_with fail;clear K;refine(OC (w.heap.size+1) s J hs HG.out D1.out).mono ?_;rintro e w2 z;cases hf:tn (bl s) with
 | none=>
  rw[hf] at z;obtain⟨U,rfl,p',n',R,hd⟩:=z;have N:=iV (Lm hf);have F:=iV (K1.out.grownBy U (by intro e;injection e with e;omega));have X:=iV (mP B1.out U (Nat.le_succ _));obtain⟨f,y,k⟩:=hd.cells;have c1:=k.c1;have Z:=F.out.cell 0 _ rfl;have Y:=F.out.cell 1 _ rfl;have r2:=F.out.cell 2 _ rfl;have ac:=F.out.free 0 (by simp);have ab:=F.out.free 1 (by simp);have aa:=F.out.free 2 (by simp);clear hf U hd k;go_wp2;go_region;go_wp2_with fail;refine bodyPost_ret (v:=.tuple #[.slice none 0 0,.agg #[.string ⟨#[]⟩,.int .i64 p',.int .i64 3]]) (by simp[results,Tryz.results58,go_sem,Z,Y,r2]) rfl ?_;refine⟨none,0,0,⟨#[]⟩,p',3,rfl,?_,by rw[N.out];exact⟨by decide,rfl,rfl⟩⟩;exact(jb (jb (jb X.out lr _) lr _) lr _).drew
 | some L=>
  rw[hf] at z;obtain⟨A,m,cc,gs,p',n',R,rfl,I,hL,H⟩:=z;have HS:=iV I;have F:=iV (K1.out.grownBy I.gr (by intro e;injection e with e;omega));have X:=iV (mP B1.out I.gr (Nat.le_succ _));obtain⟨f,y,k⟩:=I.dr.cells;have c3:=k.c3;have c4:=k.c4;have c5:=k.c5;have Z:=F.out.cell 0 _ rfl;have Y:=F.out.cell 1 _ rfl;have r2:=F.out.cell 2 _ rfl;have ac:=F.out.free 0 (by simp);have ab:=F.out.free 1 (by simp);have aa:=F.out.free 2 (by simp);by_cases M:R=0
  ·have N:=iV (Ln hf (H.1 M));have HL:=iV hL;subst M;have O:=I.len;have V:w.heap.size<=J.heap.size:=Nat.le_of_lt D;have F3:Hid (nu (((w2.setCell ⟨w.heap.size,0,none⟩ (.string ⟨#[]⟩)).setCell ⟨w.heap.size,1,none⟩ (.int .i64 0)).setCell ⟨w.heap.size,2,none⟩ (.int .i64 0)) w.heap.size A m cc gs):=by
    refine⟨O,?_,?_⟩
    ·exact jK (jS (jS (jS I.row D (jO _)) D (jO _)) D (jO _)) V
    ·exact fun g U=>((((I.grp g U).kept D (jO _)).kept D (jO _)).kept D (jO _)).base V
   clear hf hL H k I O;go_wp2_with fail;refine bodyPost_ret (v:=.tuple #[.slice A m cc,.agg #[.string ⟨#[]⟩,.int .i64 0,.int .i64 0]]) (by simp[results,Tryz.results58,go_sem,Z,Y,r2]) rfl ?_;refine⟨A,m,cc,⟨#[]⟩,0,0,rfl,?_,?_⟩
   ·exact jb (jb (jb X.out lr _) lr _) lr _
   ·rw[N.out];exact⟨rfl,gs,HL.out,F3.out⟩
  ·have N:=iV (OE hf (fun h=>M (H.2 h)));have HC:=Gb.mk M;have ad:(R != 0)=true:=by simp[M]
   clear hf hL H k I M;go_wp2;go_region;go_wp2_with fail;refine bodyPost_ret (v:=.tuple #[.slice none 0 0,.agg #[.string f,.int .i64 y,.int .i64 R]]) (by simp[results,Tryz.results58,go_sem,Z,Y,r2]) rfl ?_;refine⟨none,0,0,f,y,R,rfl,?_,by rw[N.out];exact⟨HC.out,rfl,rfl⟩⟩;exact(jb (jb (jb X.out lr _) lr _) lr _).drew
end
section
open Go.RowKit
structure ky where
 nm:BA
 what:BA
 code:Int
def ky.cells (r:ky):List Value:=[.string r.nm,.string r.what,.int .i64 r.code]
theorem UG:(Tryz.prog.info? 49).map (fun i=>(i.zero,i.size,i.bytes))=some (some (.agg #[.string ⟨#[]⟩,.string ⟨#[]⟩,.int .i64 0]),3,40):=by kernel_rfl
def U9 (a b:Int)(m r:Value):List Value:=[.int .i64 a,.int .i64 b,m,r]
def zPk:List Value:=[.string ⟨#[]⟩,.string ⟨#[]⟩,.string ⟨#[]⟩,.string ⟨#[]⟩,.slice none 0 0,.slice none 0 0,.slice none 0 0,.slice none 0 0,.slice none 0 0]
structure kO (T:Nat->Prop) (w w':World):Prop where
 os:w'.os=w.os
 tape:w'.tape=w.tape
 output:w'.output=w.output
 size:w.heap.size<=w'.heap.size
 block:∀ k,k<w.heap.size->¬ T k->w'.heap[k]?=w.heap[k]?
theorem kO.refl (T:Nat->Prop)(w:World):kO T w w:=⟨rfl,rfl,rfl,lr,fun _ _ _=>rfl⟩
theorem kO.trans {a b c:World}(h:kO T a b)(k:kO T b c):kO T a c:=
 ⟨k.os.trans h.os,k.tape.trans h.tape,k.output.trans h.output,Nat.le_trans h.size k.size,fun i z y=>(k.block i (Nat.lt_of_lt_of_le z h.size) y).trans (h.block i z y)⟩
theorem kO.below {a b c:World}(h:kO T a b)(k:Below b.heap.size b c):kO T a c:=
 h.trans ⟨k.os,k.tape,k.output,k.size,fun i y _=>k.block i y⟩
theorem kO.grown {a b c:World}{r:Option Nat}(h:kO T a b)(k:b.grownBy c r)(hr:∀ g,r=some g->T g\/a.heap.size<=g):kO T a c:=by
 refine⟨k.os.trans h.os,k.tape.trans h.tape,k.output.trans h.output,Nat.le_trans h.size k.size,fun i D y=>(k.block i (Nat.lt_of_lt_of_le D h.size) (fun e=>?_)).trans (h.block i D y)⟩;rcases hr i e.symm with z | z
 ·exact y z
 ·omega
theorem kO.thru {S:Nat->Prop}{a b c:World}(h:kO T a b)(k:kO S b c)(hs:∀ i,S i->T i\/a.heap.size<=i):kO T a c:=
 ⟨k.os.trans h.os,k.tape.trans h.tape,k.output.trans h.output,Nat.le_trans h.size k.size,fun i D y=>(k.block i (Nat.lt_of_lt_of_le D h.size) (fun e=>by
  rcases hs i e with z | z
  ·exact y z
  ·omega)).trans (h.block i D y)⟩
theorem kO.set {a b:World}{p:Addr}(h:kO T a b)(hp:T p.block\/a.heap.size<=p.block)(v:Value):kO T a (b.setCell p v):=by
 refine h.grown (r:=some p.block) (ji (World.grownBy.refl b _) (.inl rfl) v) (fun g y=>?_);injection y with y;subst y;exact hp
theorem jh.but {b:Nat}{vs:List Value}(h:jh w b vs)(k:kO T w w')(hn:¬ T b):jh w' b vs:=by
 have y:=k.block b h.sz hn;refine⟨Nat.lt_of_lt_of_le h.sz k.size,fun j u D=>?_,fun j z=>?_⟩
 ·exact(World.cell?_of_block (a:=⟨b,j,none⟩) y).trans (h.cell j u D)
 ·exact(World.frozen?_of_block (a:=⟨b,j,none⟩) y).trans (h.free j z)
theorem sN (h:w.ownsRow B e sz v n xs)(k:kO T w w')(hn:∀ g,v.ownBlock=some g->¬ T g):w'.ownsRow B e sz v n xs:=by
 refine⟨h.1,?_⟩;rcases h.2 with D | ⟨g,cap,y,rfl,F,z,H⟩
 ·exact .inl D
 ·exact .inr ⟨g,cap,y,rfl,F,(k.block g (Array.getElem?_eq_some_iff.1 z).1 (hn g rfl)).trans z,H⟩
def jn.sl (q:jn)(j:Nat):Value:=match j with
 | 0=>.slice q.na q.needs.length q.nc
 | 1=>.slice q.ba q.bars.length q.bc
 | 2=>.slice q.ga q.gives.length q.gc
 | 3=>.slice q.fa q.files.length q.fc
 | _=>.slice q.sa q.scripts.length q.sc
structure lN (T:Nat->Prop) (w wr:World) (kb mb:Nat) (a b:Int) (ms:List ql) (v:Value) (R:List ky) (q:jn):Prop where
 kp:kO T w wr
 lt:kb<w.heap.size
 ml:mb<kb
 tl:∀ g,T g->g<w.heap.size
 tk:T kb
 tv:∀ g,v.ownBlock=some g->T g\/w.heap.size+2<g
 tg:∀ g,(q.sl 2).ownBlock=some g->T g
 tf:∀ g,(q.sl 3).ownBlock=some g->T g
 fr:∀ j g,(q.sl j).ownBlock=some g->g<w.heap.size\/w.heap.size+2<g
 kv:jh wr kb (U9 a b (.map (some mb)) v)
 rf:wr.ownsRow (kb+1) 49 3 v R.length (R.flatMap ky.cells)
 box:jh wr w.heap.size [.pointer (some ⟨kb,0,none⟩)]
 pk:jh wr (w.heap.size+1) q.cells
 res:jh wr (w.heap.size+2) zPk
 mp:mj wr mb ms
 own:nT q wr (kb+1)
theorem lN.step {ms:List ql}{R:List ky}{q:jn}(h:lN T w wr kb mb a b ms v R q)(hb:Below wr.heap.size wr w'):lN T w w' kb mb a b ms v R q:=
 ⟨h.kp.below hb,h.lt,h.ml,h.tl,h.tk,h.tv,h.tg,h.tf,h.fr,h.kv.below hb,jp h.rf hb,h.box.below hb,h.pk.below hb,h.res.below hb,h.mp.below hb,h.own.below hb⟩
theorem lN.drew {ms:List ql}{R:List ky}{q:jn}(h:lN T w wr kb mb a b ms v R q):lN T w wr.drew kb mb a b ms v R q:=h.step ⟨rfl,rfl,rfl,lr,fun _ _=>rfl⟩
theorem kg (h:w.ownsRow B e sz v n xs)(hg:w.grownBy w' (some c))(hn:v.ownBlock≠some c):w'.ownsRow B e sz v n xs:=h.kept hg (.inr hn)
theorem mj.grown {b:Nat}{ms:List ql}(h:mj w b ms)(hg:w.grownBy w' (some c))(hn:b≠c):mj w' b ms:=h.block (hg.block b h.lt (by intro e;injection e with e;exact hn e))
theorem lN.lo {ms:List ql}{R:List ky}{q:jn}(h:lN T w wr kb mb a b ms v R q)(j:Nat):∀ g,(q.sl j).ownBlock=some g->kb<g/\g<wr.heap.size:=by
 intro g y
 match j,y with
 | 0,y=>have:=h.own.needs.lt g y;omega
 | 1,y=>have:=h.own.bars.lt g y;omega
 | 2,y=>have:=h.own.gives.lt g y;omega
 | 3,y=>have:=h.own.files.lt g y;omega
 | j+4,y=>have:=h.own.scripts.lt g y;omega
theorem lN.put {ms:List ql}{R:List ky}{q:jn}(h:lN T w wr kb mb a b ms v R q)(j:Nat)(hj:j<9)(u:Value)(q':jn)(hq:q'.cells=q.cells.set j u)
  (ho:nT q' wr (kb+1))(h2:(q'.sl 2).ownBlock=(q.sl 2).ownBlock)(h3:(q'.sl 3).ownBlock=(q.sl 3).ownBlock)(hf:∀ j g,(q'.sl j).ownBlock=some g->g<w.heap.size\/w.heap.size+2<g):lN T w (wr.setCell ⟨w.heap.size+1,j,none⟩ u) kb mb a b ms v R q':=by
 have I:=h.kp.size;have H:=h.lt;have y:wr.grownBy (wr.setCell ⟨w.heap.size+1,j,none⟩ u) (some (w.heap.size+1)):=ji (World.grownBy.refl wr _) (.inl rfl) u;have F:v.ownBlock≠some (w.heap.size+1):=by
  intro e;rcases h.tv _ e with D | D
  ·have:=h.tl _ D;omega
  ·omega
 have z:∀ j,(q'.sl j).ownBlock≠some (w.heap.size+1):=by
  intro j e;have:=hf j _ e;omega
 refine⟨h.kp.set (.inr (by show w.heap.size<=w.heap.size+1;omega)) u,h.lt,h.ml,h.tl,h.tk,h.tv,(by rw[h2];exact h.tg),(by rw[h3];exact h.tf),hf,h.kv.far (by omega) u,kg h.rf y F,h.box.far (by omega) u,by rw[hq];exact h.pk.set j hj u,h.res.far (by omega) u,h.mp.grown y (by have:=h.ml;omega),?_⟩;exact⟨kg ho.1 y (z 0),kg ho.2 y (z 1),kg ho.3 y (z 2),kg ho.4 y (z 3),kg ho.5 y (z 4)⟩
theorem UH {l:List jf}{x:jf}(hi:l[i]?=some x)(s:BA):(l.flatMap jf.cells).set (i*3+2) (.string s)=(l.set i ⟨x.nm,x.op,s⟩).flatMap jf.cells:=by
 induction l generalizing i with
 | nil=>simp at hi
 | cons a r ih=>
  cases i with
  | zero=>simp at hi;subst hi;simp[jf.cells]
  | succ i=>
   have:=ih (i:=i) (by simpa using hi);rw[List.set_cons_succ,List.flatMap_cons,List.flatMap_cons,<-this];rw[show(i+1)*3+2=(i*3+2)+3 by omega];rfl
theorem UI {l:List jg}{x:jg}(hi:l[i]?=some x)(s:BA):(l.flatMap jg.cells).set (i*8+6) (.string s)=(l.set i { x with sum:=s }).flatMap jg.cells:=by
 induction l generalizing i with
 | nil=>simp at hi
 | cons a r ih=>
  cases i with
  | zero=>simp at hi;subst hi;simp[jg.cells]
  | succ i=>
   have:=ih (i:=i) (by simpa using hi);rw[List.set_cons_succ,List.flatMap_cons,List.flatMap_cons,<-this];rw[show(i+1)*8+6=(i*8+6)+8 by omega];rfl
theorem lN.setG {ms:List ql}{R:List ky}{q:jn}(h:lN T w wr kb mb a b ms v R q){x:jf}(hg:q.ga=some ⟨g,0,none⟩)(hi:q.gives[i]?=some x)(s:BA):
  lN T w (wr.setCell ⟨g,i*3+2,none⟩ (.string s)) kb mb a b ms v R { q with gives:=q.gives.set i ⟨x.nm,x.op,s⟩ }:=by
 obtain⟨nm,ver,ar,sm,na,nc,K,ba,bc,N,ga,gc,gives,fa,fc,M,sa,sc,I⟩:=q;simp only at hg hi;subst hg;have U:T g:=h.tg g rfl;have aa:=h.tl g U;have V:=h.lo 2 g rfl;obtain⟨X,o2,F,Y,Z⟩:=h.own;obtain⟨O,H⟩:=F.stored (i*3+2) (.string s);rw[UH hi] at O;have D:(gives.set i ⟨x.nm,x.op,s⟩).length=gives.length:=List.length_set ..;refine⟨h.kp.set (.inl U) _,h.lt,h.ml,h.tl,h.tk,h.tv,(by intro J y;exact h.tg J y),h.tf,?_,h.kv.far (by omega) _,jH h.rf F (by decide) H,h.box.far (by omega) _,?_,h.res.far (by omega) _,h.mp.grown H (by have:=h.ml;omega),⟨jH X F (by decide) H,jH o2 F (by decide) H,?_,jH Y F (by decide) H,jH Z F (by decide) H⟩⟩
 ·intro j J y;have z:=h.fr j J
  match j,y,z with
  | 0,y,z=>exact z y
  | 1,y,z=>exact z y
  | 2,y,z=>exact z y
  | 3,y,z=>exact z y
  | j+4,y,z=>exact z y
 ·have:=h.pk.far (show g≠w.heap.size+1 by omega) (j:=i*3+2) (.string s);unfold jn.cells at this |-;simp only[D];exact this
 ·simp only[D];exact O
theorem lN.setF {ms:List ql}{R:List ky}{q:jn}(h:lN T w wr kb mb a b ms v R q){x:jg}(hg:q.fa=some ⟨g,0,none⟩)(hi:q.files[i]?=some x)(s:BA):
  lN T w (wr.setCell ⟨g,i*8+6,none⟩ (.string s)) kb mb a b ms v R { q with files:=q.files.set i { x with sum:=s } }:=by
 obtain⟨nm,ver,ar,sm,na,nc,K,ba,bc,N,ga,gc,M,fa,fc,files,sa,sc,I⟩:=q;simp only at hg hi;subst hg;have U:T g:=h.tf g rfl;have aa:=h.tl g U;have X:=h.lo 3 g rfl;obtain⟨Y,o2,V,H,Z⟩:=h.own;obtain⟨O,F⟩:=H.stored (i*8+6) (.string s);rw[UI hi] at O;have D:(files.set i { x with sum:=s }).length=files.length:=List.length_set ..;refine⟨h.kp.set (.inl U) _,h.lt,h.ml,h.tl,h.tk,h.tv,h.tg,(by intro J y;exact h.tf J y),?_,h.kv.far (by omega) _,jH h.rf H (by decide) F,h.box.far (by omega) _,?_,h.res.far (by omega) _,h.mp.grown F (by have:=h.ml;omega),⟨jH Y H (by decide) F,jH o2 H (by decide) F,jH V H (by decide) F,?_,jH Z H (by decide) F⟩⟩
 ·intro j J y;have z:=h.fr j J
  match j,y,z with
  | 0,y,z=>exact z y
  | 1,y,z=>exact z y
  | 2,y,z=>exact z y
  | 3,y,z=>exact z y
  | j+4,y,z=>exact z y
 ·have:=h.pk.far (show g≠w.heap.size+1 by omega) (j:=i*8+6) (.string s);unfold jn.cells at this |-;simp only[D];exact this
 ·simp only[D];exact O
def Ry (a b:Int)(m v:Value)(kb:Nat)(R:List ky)(x:ky)(w w':World):Prop:=
 ∃ v',jh w' kb (U9 a b m v')/\w'.ownsRow (kb+1) 49 3 v' (R++[x]).length ((R++[x]).flatMap ky.cells)/\kO (fun i=>i=kb\/v.ownBlock=some i) w w'/\(v'.ownBlock=v.ownBlock\/∃ g,v'.ownBlock=some g/\w.heap.size<=g)
theorem lN.ref {ms:List ql}{R:List ky}{x:ky}{q:jn}(h:lN T w wr kb mb a b ms v R q)(hr:Ry a b (.map (some mb)) v kb R x wr w'):∃ v',lN T w w' kb mb a b ms v' (R++[x]) q:=by
 obtain⟨v',Y,X,z,F⟩:=hr;have V:=h.lt;have hz:=h.res.sz;have U:∀ g,v.ownBlock=some g->kb<g:=fun g y=>by have:=(h.rf.lt g y).1;omega
 have D:∀ c,w.heap.size<=c->c<=w.heap.size+2->¬ (c=kb\/v.ownBlock=some c):=by
  rintro c J Z (e | e)
  ·omega
  ·rcases h.tv c e with N | N
   ·have:=h.tl _ N;omega
   ·omega
 have far:∀ (g:Nat)(B:Nat)(e:TypeId)(sz n:Nat)(u:Value)(K:List Value),wr.ownsRow B e sz u n K->e≠49->kb<B->u.ownBlock=some g->¬ (g=kb\/v.ownBlock=some g):=by
  rintro g B e sz n u K M I hB y (O | O)
  ·have:=(M.lt g y).1;omega
  ·rcases rU M h.rf I with H | H
   ·rw[y] at H;cases H
   ·exact H (y.trans O.symm)
 refine⟨v',h.kp.thru z ?_,h.lt,h.ml,h.tl,h.tk,?_,h.tg,h.tf,h.fr,Y,X,h.box.but z (D _ (by omega) (by omega)),h.pk.but z (D _ (by omega) (by omega)),h.res.but z (D _ (by omega) (by omega)),h.mp.block (z.block mb h.mp.lt ?_),⟨sN h.own.1 z (fun g y=>far g _ _ _ _ _ _ h.own.1 (by decide) (by omega) y),sN h.own.2 z (fun g y=>far g _ _ _ _ _ _ h.own.2 (by decide) (by omega) y),sN h.own.3 z (fun g y=>far g _ _ _ _ _ _ h.own.3 (by decide) (by omega) y),sN h.own.4 z (fun g y=>far g _ _ _ _ _ _ h.own.4 (by decide) (by omega) y),sN h.own.5 z (fun g y=>far g _ _ _ _ _ _ h.own.5 (by decide) (by omega) y)⟩⟩
 ·rintro i (e | e)
  ·left;rw[e];exact h.tk
  ·rcases h.tv i e with J | J
   ·exact .inl J
   ·right;omega
 ·intro g y;rcases F with F | ⟨g',F,k5⟩
  ·exact h.tv g (F ▸ y)
  ·rw[F] at y;injection y with y;subst y;right;omega
 ·have:=h.ml;rintro(e | e)
  ·omega
  ·have:=U mb e;omega
theorem jh.farN {b c:Nat}{vs:List Value}(hne:c≠b):∀ (cs:List Value)(o:Nat){wr:World},jh wr b vs->jh (wr.setCells c o cs) b vs
 | [],_,_,h=>h
 | v::r,o,_,h=>jh.farN hne r (o+1) (h.far hne v)
theorem Ba {c:Nat}:∀ (cs:List Value)(o:Nat)(wr:World),wr.grownBy (wr.setCells c o cs) (some c)
 | [],_,wr=>World.grownBy.refl wr _
 | v::r,o,wr=>ja (ji (World.grownBy.refl wr _) (.inl rfl) v) (Ba r (o+1) _)
structure CvE (T:Nat->Prop) (w W:World) (kb mb:Nat) (a b:Int) (ms:List ql) (v:Value) (R:List ky) (q:jn):Prop where
 kp:kO T w W
 tv:∀ g,v.ownBlock=some g->T g\/w.heap.size<g
 kv:jh W kb (U9 a b (.map (some mb)) v)
 rf:W.ownsRow (kb+1) 49 3 v R.length (R.flatMap ky.cells)
 mp:mj W mb ms
 own:nT q W (kb+1)
 fr:∀ j g,(q.sl j).ownBlock=some g->g<w.heap.size\/w.heap.size<g
 tg:∀ g,(q.sl 2).ownBlock=some g->T g
 tf:∀ g,(q.sl 3).ownBlock=some g->T g
theorem lN.done {W:World}{ms:List ql}{R:List ky}{q:jn}(h:lN T w wr kb mb a b ms v R q)(hW:wr.setCells (w.heap.size+2) 0 q.cells=W):
  jh W (w.heap.size+2) q.cells/\CvE T w W kb mb a b ms v R q:=by
 subst hW;have H:=h.lt;have y:=Ba q.cells 0 (c:=w.heap.size+2) wr;have z:∀ j,(q.sl j).ownBlock≠some (w.heap.size+2):=by
  intro j e;have:=h.fr j _ e;omega
 have F:v.ownBlock≠some (w.heap.size+2):=by
  intro e;rcases h.tv _ e with D | D
  ·have:=h.tl _ D;omega
  ·omega
 refine⟨?_,h.kp.grown y (fun g y=>by injection y with y;right;omega),(fun g y=>(h.tv g y).imp id (by omega)),h.kv.farN (by omega) _ 0,kg h.rf y F,h.mp.grown y (by have:=h.ml;omega),⟨kg h.own.1 y (z 0),kg h.own.2 y (z 1),kg h.own.3 y (z 2),kg h.own.4 y (z 3),kg h.own.5 y (z 4)⟩,fun j g y=>(h.fr j g y).imp id (by omega),h.tg,h.tf⟩;have I:jh wr (w.heap.size+2) ([]++(zPk++[])):=by simpa using h.res
 have:=jh.setN [] q.cells zPk [] wr (by rw[mX];rfl) I;simpa using this
theorem lN.start {ms:List ql}{R:List ky}{q:jn}(hlt:kb<w.heap.size)(hml:mb<kb)(htl:∀ g,T g->g<w.heap.size)(htk:T kb)(htv:∀ g,v.ownBlock=some g->T g)(htg:∀ g,(q.sl 2).ownBlock=some g->T g)(htf:∀ g,(q.sl 3).ownBlock=some g->T g)
  (hk:jh w kb (U9 a b (.map (some mb)) v))(hr:w.ownsRow (kb+1) 49 3 v R.length (R.flatMap ky.cells))(hm:mj w mb ms)(ho:nT q w (kb+1))(t1 t2:TypeId):
  lN T w (((w.alloc (.cells #[.pointer (some ⟨kb,0,none⟩)] t1)).alloc (.cells q.cells.toArray t2)).alloc (.cells zPk.toArray t2)) kb mb a b ms v R q:=by
 have z:Below w.heap.size w (((w.alloc (.cells #[.pointer (some ⟨kb,0,none⟩)] t1)).alloc (.cells q.cells.toArray t2)).alloc (.cells zPk.toArray t2)):=((bR.alloc lr _).alloc (by simp) _).alloc (by simp;omega) _;refine⟨(kO.refl T w).below z,hlt,hml,htl,htk,fun g y=>.inl (htv g y),htg,htf,?_,hk.below z,jp hr z,?_,?_,?_,hm.below z,ho.below z⟩
 ·intro j g y;left
  match j,y with
  | 0,y=>exact(ho.needs.lt g y).2
  | 1,y=>exact(ho.bars.lt g y).2
  | 2,y=>exact(ho.gives.lt g y).2
  | 3,y=>exact(ho.files.lt g y).2
  | j+4,y=>exact(ho.scripts.lt g y).2
 ·exact((jh.new w [.pointer (some ⟨kb,0,none⟩)] t1).alloc _).alloc _
 ·have h:=(jh.new (w.alloc (.cells #[.pointer (some ⟨kb,0,none⟩)] t1)) q.cells t2).alloc (.cells zPk.toArray t2);simpa using h
 ·have h:=jh.new ((w.alloc (.cells #[.pointer (some ⟨kb,0,none⟩)] t1)).alloc (.cells q.cells.toArray t2)) zPk t2;simpa using h
theorem J4 (w:World)(t:TypeId)(x y z:Value):oP ((w.alloc (.cells #[x,y,z] t)).drew) (w.heap.size+1) 3 (some ⟨w.heap.size,0,none⟩) 1 [x,y,z]:=Mu w t x y z
theorem Fm (a b:Int)(m v:Value)(kb s:Nat)(R:List ky)(nm what:BA)(code:Int)(pr:List Value)(w:World)(hk:jh w kb (U9 a b m v))(hr:w.ownsRow (kb+1) 49 3 v R.length (R.flatMap ky.cells))(hR:R.length<=1000000)
  (hs:jh w s [.pointer (some ⟨kb,0,none⟩)])(hp:jh w (s+1) (.string nm::pr))(hv1:v.ownBlock≠some s)(hv2:v.ownBlock≠some (s+1)):Calls Tryz.prog 46 #[.string what,.int .i64 code,.pointer (some ⟨s,0,none⟩),.pointer (some ⟨s+1,0,none⟩)] w fun e w'=>e=.returned (.tuple #[])/\Ry a b m v kb R ⟨nm,what,code⟩ w w':=by
 obtain⟨i0,O,ab,Y,V⟩:=info_parts UG;have c0:=hs.cell 0 _ rfl;have c1:=hp.cell 0 _ rfl;have c3:=hk.cell 3 _ rfl;have n0:=fun o=>(World.cell?_alloc_lt w o ⟨s,0,none⟩ hs.sz).trans c0;have n1:=fun o=>(World.cell?_alloc_lt w o ⟨s+1,0,none⟩ hp.sz).trans c1;have n3:=fun o=>(World.cell?_alloc_lt w o ⟨kb,3,none⟩ hk.sz).trans c3;have HK:=iV hk;have HS:=iV hs;have K:=iV hr;have aa:Hid (v.ownBlock≠some kb):=by intro e;have:=(hr.lt kb e).1;omega
 have ac:=iV hv1;have ad:=iV hv2;have U:=iV hk.sz;obtain⟨z,F⟩:∃ z,R.length=z:=⟨_,rfl⟩
 have Z:=iV F;rw[F] at K hR;clear hk hs hp hr F hv1 hv2;go_in;go_wp2
 go_region_law
  (refine kr _ (by rfl) _ _ _ (by rfl) (kb+1) 49 i0 _ 3 40 Tryz.underlying27 O ab Y V rfl (by omega) v z (R.flatMap ky.cells) (by rfl) ((K.out.alloc _).drew) (w.heap.size+1) (some ⟨w.heap.size,0,none⟩) 1 1 [.string nm,.string what,.int .i64 code] (by rfl) (J4 w _ _ _ _) (by simp[Value.oneCell']) (by simp only[maxLen];omega) (by omega) (by have:=U.out;simp;omega) ?_
   intro v6 w6 y D I;obtain⟨N,M,rfl⟩:=jk y;have K6:=iV (((HK.out.alloc (.cells #[.string nm,.string what,.int .i64 code] 49)).drew).grownQ D (fun e=>aa.out e.symm));have S6:=iV (((HS.out.alloc (.cells #[.string nm,.string what,.int .i64 code] 49)).drew).grownQ D (fun e=>ac.out e.symm));have x0:=S6.out.cell 0 _ rfl;have x3:=K6.out.cell 3 _ rfl;have f3:=K6.out.free 3 (by show _<4;omega))
 all_goals
  go_wp2;go_end0;have KF:=K6.out.set 3 (by show 3<4;omega) (.slice N (z+1) M);have H:w6.grownBy (w6.setCell ⟨kb,3,none⟩ (.slice N (z+1) M)) (some kb):=ji (World.grownBy.refl w6 _) (.inl rfl) _;have X:(Value.slice N (z+1) M).ownBlock≠some kb:=by intro e;have:=(y.lt kb e).1;omega
  have GF:=kg y H X;refine⟨rfl,.slice N (z+1) M,KF,?_,?_,?_⟩
  ·rw[List.length_append,Z.out,List.flatMap_append];exact GF
  ·have h0:kO (fun i=>i=kb\/v.ownBlock=some i) w ((w.alloc (.cells #[.string nm,.string what,.int .i64 code] 49)).drew):=(kO.refl _ w).below (bR.alloc lr _).drew;exact(h0.grown D (fun g J=>.inl (.inr J))).grown H (fun g J=>by injection J with J;exact .inl (.inl J.symm))
  ·rcases I with h | h
   ·exact .inl h
   ·right;exact⟨_,h,by simp⟩
theorem GN (a b:Int)(ha:lE a)(hb:lE b)(kb mb:Nat)(v:Value)(A:Option Addr)(c:Nat)(l:List kV)(w:World)(hk:jh w kb (U9 a b (.map (some mb)) v))(hm:mj w mb [])(hne:mb<kb)(hr:Rd w 5 A l.length (l.flatMap kV.cells))(hl:l.length<=100000)(hz:∀ k∈l,k.small):Calls Tryz.prog 24 #[.pointer (some ⟨kb,0,none⟩),.slice A l.length c] w fun e w'=>e=.returned (.tuple #[])/\∃ ms,mj w' mb ms/\lZ a b l ms/\w.grownBy w' (some mb):=by
 obtain⟨aa,ay,ap⟩:=Rz ha;obtain⟨ag,az,ah⟩:=Rz hb;have ac:Hid (∀ W,Calls Tryz.prog 40 #[.int .i64 a] W fun e w'=>e=.returned (.int .i64 (Fo a:Int))/\W=w'):=by intro W;rw[<-aa];exact wy a W
 have ai:Hid (∀ W,Calls Tryz.prog 40 #[.int .i64 b] W fun e w'=>e=.returned (.int .i64 (Fo b:Int))/\W=w'):=by intro W;rw[<-ag];exact wy b W
 have ab:=iV ap;have R:=iV ah;obtain⟨KA,an⟩:∃ KA,Fo a=KA:=⟨_,rfl⟩
 obtain⟨Z,am⟩:∃ Z,Fo b=Z:=⟨_,rfl⟩
 rw[an] at ac ab ay;rw[am] at ai R az;have bA:(KA:Int)<4:=by omega
 have bB:(Z:Int)<4:=by omega
 have HK:=iV hk;have HM:=iV hm;have HR:=iV hr;have HZ:=iV hz;have HB:=iV hb;have aA:=iV hne;clear hk hm hr hz ha hb aa ag ap ah an am hne;go_in;go_wp2;go_loopw [11] (fun s wr=>∃ (k:Nat) (ms:List ql),k<=l.length/\s=.int .i64 k/\Hid (mj wr mb ms)/\Hid (lZ a b (l.take k) ms)/\Hid (w.grownBy wr (some mb))) (fun i _=>l.length-(intOf i).toNat)
 case atStart=>exact⟨0,[],z0,rfl,HM.out,lZ.nil a b,World.grownBy.refl w _⟩
 case round=>
  obtain⟨k,ms,hk,rfl,M0,L0,G0⟩:=hrel;by_cases al:k<l.length
  ·obtain⟨x,hx⟩:∃ x,l[k]?=some x:=⟨_,gG al⟩
   have HX:=iV (HZ.out x (gM hx));have HT:=iV (jI hx);have R0:=iV (aaC HR.out (by decide) HM.out G0.out);have K0:=iV (HK.out.grownQ G0.out (by intro e;injection e with e;have:=aA.out;omega));obtain⟨bb,off,hA,Y⟩:=R0.out.elem wJ k x hx;have e0:=Y 0 _ rfl;have e1:=Y 1 _ rfl;have e2:=Y 2 _ rfl;have e3:=Y 3 _ rfl;have e4:=Y 4 _ rfl;simp only[Nat.add_zero] at e0;have aB:=fun W=>jm (T:=23) (E:=64) (sz:=5) (c:=c) Tryz.underlying23 rfl Tryz.sizeOf64 hA al W;clear hx hA Y;obtain⟨K,H⟩:∃ K,wr.alloc (.cells #[.string x.path,.string x.s0,.string x.s1,.string x.s2,.string x.s3] 64)=K:=⟨_,rfl⟩
   have B1:Hid (Below wr.heap.size wr K):=by show Below _ _ _;rw[<-H];exact bR.alloc lr _
   have X1:Hid (jh K wr.heap.size x.cells):=by show jh _ _ _;rw[<-H];exact jh.new wr x.cells _
   have K1:=iV (K0.out.below B1.out);have M1:=iV (M0.out.below B1.out);have ax:=iV H;clear H;go_upto_region 3 with(fail)
   rw[ax.out];clear e0 e1 e2 e3 e4 aB;have c1:=K1.out.cell 1 _ rfl;have xB:=X1.out.cell (1+Z) _ (R.out x);go_cut [28] (fun s wx=>s=.bool (!pG b (x.sum (mv b)))/\Hid (Below K.heap.size K wx))
   case first=>
    go_region_held3 (fun w'=>w'.cell? ⟨kb,1,none⟩=some (.int .i64 b)/\w'.cell? ⟨wr.heap.size,1+Z,none⟩=some (.string (x.sum (mv b))))
     (first
       | exact⟨c1,xB⟩
       | exact⟨K2.out.cell 1 _ rfl,X2.out.cell (1+Z) _ (R.out x)⟩
       | go_keep)
     (first
       | (go_at_call 40;refine(ai.out _).mono ?_;rintro e w2 ⟨rfl,rfl⟩)
       | (go_at_call 39;refine(Ah b HB.out (x.sum (mv b)) _ (by have:=HX.out.sum (mv b);omega)).mono ?_;rintro e w2 ⟨rfl,X⟩
          have U:=iV X;have K2:=iV (K1.out.drew.below X);have X2:=iV (X1.out.drew.below X)))
    all_goals
     go_wp2;go_meet;exact⟨rfl,(Below.refl _ K).drew.trans U.out⟩
   case rest=>
    obtain⟨rfl,U⟩:=hcut;obtain⟨y,ae⟩:∃ y,wc=y:=⟨_,rfl⟩
    rw[ae] at U |-;clear ae c1 xB;have K2:=iV (K1.out.below U.out);have X2:=iV (X1.out.below U.out);have M2:=iV (M1.out.below U.out);have G2:=iV (kx (kx G0.out B1.out) U.out);clear K1 X1 M1;obtain⟨sb,M⟩:∃ sb,pG b (x.sum (mv b))=sb:=⟨_,rfl⟩
    have ar:=iV M;rw[M];clear M;cases sb
    ·have LN:Hid (lZ a b (l.take (k+1)) ms):=by show lZ _ _ _ _;rw[HT.out];exact L0.out.skip ar.out
     go_wp2;go_roundw
     case rel=>exact⟨k+1,ms,by omega,by go_num,M2,LN,G2⟩
     case measure=>simp[intOf];omega
    ·have c0:=K2.out.cell 0 _ rfl;have x0:=X2.out.cell 0 _ rfl;have xA:=X2.out.cell (1+KA) _ (ab.out x);go_upto_region 4 with(fail)
     go_cut [6] (fun s6 wx=>s6=.pointer (some ⟨y.heap.size,0,none⟩)/\Hid (Below y.heap.size y wx)/\Hid (jh wx y.heap.size [.string x.path,.string (x.sum (mv a))]))
     case first=>
      go_region_held3 (fun w'=>w'.cell? ⟨kb,0,none⟩=some (.int .i64 a)/\w'.cell? ⟨wr.heap.size,0,none⟩=some (.string x.path)/\w'.cell? ⟨wr.heap.size,1+KA,none⟩=some (.string (x.sum (mv a))))
       (first
         | exact⟨c0,x0,xA⟩
         | go_keep)
       (first
         | (go_at_call 40;refine(ac.out _).mono ?_;rintro e w2 ⟨rfl,rfl⟩))
      all_goals
       go_wp2;go_meet;refine⟨rfl,?_,?_⟩
       ·exact(Below.refl _ y).drew.alloc lr _
       ·exact jh.new y.drew [.string x.path,.string (x.sum (mv a))] _
     case rest=>
      obtain⟨rfl,B3,J⟩:=hcut;obtain⟨D,ak⟩:∃ D,wc=D:=⟨_,rfl⟩
      rw[ak] at B3 J |-;clear ak c0 x0 xA;have K3:=iV (K2.out.below B3.out);have X3:=iV (X2.out.below B3.out);have M3:=iV (M2.out.below B3.out);have G3:=iV (kx G2.out B3.out);clear K2 X2 M2;obtain⟨F,O⟩:∃ F,x.sum (mv a)=F:=⟨_,rfl⟩
      have I:=iV O;rw[O] at J;clear O;obtain⟨fd,V⟩:∃ fd,mD ms x.path F=fd:=⟨_,rfl⟩
      have ad:=iV V;have l1:=(M3.out.below (Below.refl _ D).drew).look_ok x.path F;have l2:=(M3.out.below ((Below.refl _ D).alloc lr (.cells #[.string ⟨#[]⟩,.string ⟨#[]⟩,.string ⟨#[]⟩,.string ⟨#[]⟩,.string ⟨#[]⟩] 64)).drew).look_ok x.path F;rw[V] at l1 l2;clear V;obtain⟨fb,N⟩:∃ fb,fd.isSome=fb:=⟨_,rfl⟩
      have aq:=iV N;obtain⟨kz,af⟩:∃ kz,fd.getD Yd=kz:=⟨_,rfl⟩
      rw[N,af] at l1 l2;clear N af;unfold JY kV.val at l1 l2;have k2:=K3.out.cell 2 _ rfl;have d0:=J.out.cell 0 _ rfl;have d1:=J.out.cell 1 _ rfl;have n0:=fun o=>(World.cell?_alloc_lt D o ⟨y.heap.size,0,none⟩ J.out.sz).trans d0;have n1:=fun o=>(World.cell?_alloc_lt D o ⟨y.heap.size,1,none⟩ J.out.sz).trans d1;have n2:=fun o=>(World.cell?_alloc_lt D o ⟨kb,2,none⟩ K3.out.sz).trans k2;go_upto_region 5 with(fail)
      go_cut [8] (fun s8 wx=>s8=.bool fb/\Hid (Below D.heap.size D wx))
      case first=>
       go_region
       all_goals
        go_wp2;go_meet;exact⟨rfl,(Below.refl _ D).drew.alloc lr _⟩
      case rest=>
       obtain⟨rfl,B4⟩:=hcut;obtain⟨W4,ao⟩:∃ W4,wc=W4:=⟨_,rfl⟩
       rw[ao] at B4 |-;clear ao k2 d0 d1 l1 l2 n0 n1 n2;have K4:=iV (K3.out.below B4.out);have X4:=iV (X3.out.below B4.out);have M4:=iV (M3.out.below B4.out);have C4:=iV (J.out.below B4.out);have G4:=iV (kx G3.out B4.out);clear K3 X3 M3 J;cases fb
       ·have k2:=K4.out.cell 2 _ rfl;have d0:=C4.out.cell 0 _ rfl;have d1:=C4.out.cell 1 _ rfl;have y0:=X4.out.cell 0 _ rfl;have y1:=X4.out.cell 1 _ rfl;have y2:=X4.out.cell 2 _ rfl;have y3:=X4.out.cell 3 _ rfl;have y4:=X4.out.cell 4 _ rfl;have hn:mD ms x.path F=none:=by
         have:=aq.out;rw[<-ad.out] at this;cases e:mD ms x.path F with
         | none=>rfl
         | some z=>rw[e] at this;cases this
        obtain⟨w5,au,av,aj,_⟩:=(M4.out.below (Below.refl _ W4).drew).put x.path F x hn;have M5:=iV av;have G5:=iV (ja (ls G4.out 1) aj);have LN:Hid (lZ a b (l.take (k+1)) (ms++[(x.path,F,x)])):=by show lZ _ _ _ _;rw[HT.out,<-I.out];exact L0.out.put ar.out
        unfold JY kV.val at au;clear av aj hn;go_wp2;go_upto_region 7 with(fail)
        go_region
        all_goals
         go_wp2;go_roundw
         case rel=>exact⟨k+1,_,by omega,by go_num,M5,LN,G5⟩
         case measure=>simp[intOf];omega
       ·have LN:Hid (lZ a b (l.take (k+1)) ms):=by show lZ _ _ _ _;rw[HT.out];exact L0.out.there (by rw[I.out,ad.out,aq.out])
        go_wp2;go_roundw
        case rel=>exact⟨k+1,ms,by omega,by go_num,M4,LN,G4⟩
        case measure=>simp[intOf];omega
  ·go_wp2;go_end0;refine⟨rfl,ms,M0.out,?_,G0.out⟩;have:=L0.out;rw[tL (by omega)] at this;exact this
theorem xp (p s0 s1 s2 s3:BA)(w:World):(Instr.field 64 (.agg #[.string p,.string s0,.string s1,.string s2,.string s3]) 1).run Tryz.prog w=.ok (.agg #[.string s0,.string s1,.string s2,.string s3]) w:=by kernel_rfl
theorem xq (s0 s1 s2 s3:BA)(w:World):
  (Instr.index 62 (.agg #[.string s0,.string s1,.string s2,.string s3]) (.int .i64 1)).run Tryz.prog w=.ok (.string s1) w /\
  (Instr.index 62 (.agg #[.string s0,.string s1,.string s2,.string s3]) (.int .i64 2)).run Tryz.prog w=.ok (.string s2) w /\
  (Instr.index 62 (.agg #[.string s0,.string s1,.string s2,.string s3]) (.int .i64 3)).run Tryz.prog w=.ok (.string s3) w:=⟨by kernel_rfl,by kernel_rfl,by kernel_rfl⟩
theorem Fp {kn:List kV}{f:jg}(h:f.kind≠1\/a=b):lD a b kn f=f.sum:=by unfold lD;rw[if_pos h]
theorem Qh {kn:List kV}{ms:List ql}(hL:lZ a b kn ms){f:jg}(h1:f.kind=1)(h2:a≠b):lD a b kn f=((mD ms f.path f.sum).getD Yd).sum (mv b):=by
 unfold lD;rw[if_neg (by rintro(x | x);exact x h1;exact h2 x),hL f.path f.sum];cases lM a b kn f.path f.sum with
 | some k=>rfl
 | none=>
  show(⟨#[]⟩:BA)=Yd.sum (mv b);unfold kV.sum Yd
  (repeat' split)<;>rfl
theorem J5 (b n:Int)(h:I4 b=n)(W:World):Calls Tryz.prog 40 #[.int .i64 b] W fun e w'=>e=.returned (.int .i64 n)/\w'=W:=by
 rw[<-h];exact(wy b W).mono fun _ _ ⟨z,y⟩=>⟨z,y.symm⟩
theorem Aj (a b:Int)(hb:lE b)(kb mb:Nat)(v:Value)(kn:List kV)(ms:List ql)(hL:lZ a b kn ms)(f:jg)(w:World)(hk:jh w kb (U9 a b (.map (some mb)) v))(hm:mj w mb ms):Calls Tryz.prog 51 #[.pointer (some ⟨kb,0,none⟩),f.val] w fun e w'=>e=.returned (.string (lD a b kn f))/\Below w.heap.size w w':=by
 obtain⟨I,O⟩:∃ I,w.alloc (.cells #[.string f.path,.int .i64 f.kind,.int .i64 f.mode,.string f.owner,.string f.group,.string f.link,.string f.sum,.bool f.conf] 57)=I:=⟨_,rfl⟩
 have N:Hid (Below w.heap.size w I):=by show Below _ _ _;rw[<-O];exact bR.alloc lr _
 have M:Hid (jh I w.heap.size f.cells):=by show jh _ _ _;rw[<-O];exact jh.new w f.cells _
 have K:=iV (hk.below N.out);have X:=iV (hm.below N.out);have J:=iV O;have HB:=iV hb;clear hk hm O hb;have f1:=M.out.cell 1 _ rfl;have Y:=M.out.cell 6 _ rfl;by_cases U:f.kind=1
 rotate_left
 ·have q1:(f.kind != 1)=true:=by simpa [bne] using U
  have E:=iV (Fp (a:=a) (b:=b) (kn:=kn) (f:=f) (.inl U));clear U;unfold jg.val;go_in;go_upto_region 1 with(fail)
  rw[J.out];go_quiet (fail);go_wp2;go_ret;exact⟨by rw[E.out];rfl,jj N.out _⟩
 have q1:(f.kind != 1)=false:=by simp[U]
 have k0:=K.out.cell 0 _ rfl;have Z:=K.out.cell 1 _ rfl;by_cases V:a=b
 ·have q2:(a==b)=true:=by simpa using V
  have E:=iV (Fp (a:=a) (b:=b) (kn:=kn) (f:=f) (.inr V));clear U V;unfold jg.val;go_in;go_upto_region 1 with(fail)
  rw[J.out];go_quiet (fail);go_wp2;go_ret;exact⟨by rw[E.out];rfl,jj N.out _⟩
 ·have q2:(a==b)=false:=by simpa using V
  have E:=iV (Qh hL U V);clear U V;rcases HB.out with rfl | rfl | rfl
  ·unfold jg.val;go_in;go_upto_region 1 with(fail)
   rw[J.out];go_quiet (fail);obtain⟨H,z⟩:∃ H,I.drewN nq=H:=⟨_,rfl⟩
   have D:Hid (Below I.heap.size I H):=by show Below _ _ _;rw[<-z];exact jj bR _
   rw[z];clear z f1 Y k0 Z;have f0:=(M.out.below D.out).cell 0 _ rfl;have Y:=(M.out.below D.out).cell 6 _ rfl;have Z:=(K.out.below D.out).cell 1 _ rfl;have k2:=(K.out.below D.out).cell 2 _ rfl;have R:=fun n=>((X.out.below D.out).below (jj (Below.refl _ H) n)).look f.path f.sum;obtain⟨y,F⟩:∃ y,(mD ms f.path f.sum).getD Yd=y:=⟨_,rfl⟩
   rw[F] at R E;clear F;unfold JY kV.val at R;have hf:=xp y.path y.s0 y.s1 y.s2 y.s3;have hi:=fun W=>(xq y.s0 y.s1 y.s2 y.s3 W).1;have B3:=iV (jc N.out D.out);clear N D X M K;go_upto_region 3 with(fail)
   go_quiet ((go_at_call 40;exact Calls.quiet_of_same (J5 1 1 rfl _)));go_wp2;go_ret;exact⟨by rw[E.out];rfl,jj B3.out _⟩
  ·unfold jg.val;go_in;go_upto_region 1 with(fail)
   rw[J.out];go_quiet (fail);obtain⟨H,z⟩:∃ H,I.drewN nq=H:=⟨_,rfl⟩
   have D:Hid (Below I.heap.size I H):=by show Below _ _ _;rw[<-z];exact jj bR _
   rw[z];clear z f1 Y k0 Z;have f0:=(M.out.below D.out).cell 0 _ rfl;have Y:=(M.out.below D.out).cell 6 _ rfl;have Z:=(K.out.below D.out).cell 1 _ rfl;have k2:=(K.out.below D.out).cell 2 _ rfl;have R:=fun n=>((X.out.below D.out).below (jj (Below.refl _ H) n)).look f.path f.sum;obtain⟨y,F⟩:∃ y,(mD ms f.path f.sum).getD Yd=y:=⟨_,rfl⟩
   rw[F] at R E;clear F;unfold JY kV.val at R;have hf:=xp y.path y.s0 y.s1 y.s2 y.s3;have hi:=fun W=>(xq y.s0 y.s1 y.s2 y.s3 W).2.2;have B3:=iV (jc N.out D.out);clear N D X M K;go_upto_region 3 with(fail)
   go_quiet ((go_at_call 40;exact Calls.quiet_of_same (J5 2 3 rfl _)));go_wp2;go_ret;exact⟨by rw[E.out];rfl,jj B3.out _⟩
  ·unfold jg.val;go_in;go_upto_region 1 with(fail)
   rw[J.out];go_quiet (fail);obtain⟨H,z⟩:∃ H,I.drewN nq=H:=⟨_,rfl⟩
   have D:Hid (Below I.heap.size I H):=by show Below _ _ _;rw[<-z];exact jj bR _
   rw[z];clear z f1 Y k0 Z;have f0:=(M.out.below D.out).cell 0 _ rfl;have Y:=(M.out.below D.out).cell 6 _ rfl;have Z:=(K.out.below D.out).cell 1 _ rfl;have k2:=(K.out.below D.out).cell 2 _ rfl;have R:=fun n=>((X.out.below D.out).below (jj (Below.refl _ H) n)).look f.path f.sum;obtain⟨y,F⟩:∃ y,(mD ms f.path f.sum).getD Yd=y:=⟨_,rfl⟩
   rw[F] at R E;clear F;unfold JY kV.val at R;have hf:=xp y.path y.s0 y.s1 y.s2 y.s3;have hi:=fun W=>(xq y.s0 y.s1 y.s2 y.s3 W).2.1;have B3:=iV (jc N.out D.out);clear N D X M K;go_upto_region 3 with(fail)
   go_quiet ((go_at_call 40;exact Calls.quiet_of_same (J5 3 2 rfl _)));go_wp2;go_ret;exact⟨by rw[E.out];rfl,jj B3.out _⟩
def jy.val (s:jy):Value:=.agg #[.int .i64 s.phase,.string s.body]
theorem yQ (f:FuncId)(x0:Value)(p:jy->Bool)(A:Option Addr)(c:Nat)(l:List jy)(w:World)(hr:Rd w 2 A l.length (l.flatMap jy.cells))(hl:l.length<=1000000)
  (hcall:∀ (args:Array Value)(w:World),(callFunc f args).run Tryz.prog w=.ok (.enter f args) w)
  (hf:Hid (∀ g∈l,∀ W,Below w.heap.size w W->Calls Tryz.prog f #[g.val,x0] W fun e w'=>e=.returned (.bool (p g))/\Below W.heap.size W w')):Calls Tryz.prog 88 #[.slice A l.length c,.func (.func f) #[] #[x0]] w fun e w'=>e=.returned (.int .i64 (WP p l 0))/\Below w.heap.size w w':=by
 have X:=iV hr;clear hr;go_in;go_wp2;go_loopw [8] (fun i wr=>∃ k:Nat,k<=l.length/\i=.int .i64 k/\Hid (∀ y∈l.take k,p y=false)/\Hid (Below w.heap.size w wr)) (fun i _=>l.length-(intOf i).toNat)
 case atStart=>exact⟨0,z0,rfl,by simp[Hid],bR⟩
 case round=>
  obtain⟨k,hk,rfl,M,I⟩:=hrel;by_cases D:k<l.length
  ·obtain⟨x,H⟩:∃ x,l[k]?=some x:=⟨_,gG D⟩
   obtain⟨b,off,V,K⟩:=(X.out.below I.out).elem nI k x H;have R:=K 0 _ rfl;have e1:=K 1 _ rfl;simp only[Nat.add_zero] at R;have N:=fun W=>jm (T:=36) (E:=59) (sz:=2) (c:=c) Tryz.underlying36 rfl Tryz.sizeOf59 V D W;have U:=iV H;have J:=iV (fun W Y=>hf.out x (gM H) W Y);unfold jy.val at J;clear H V K;go_wp2_with fail;refine(J.out _ I.out).mono ?_;rintro e w1 ⟨rfl,F⟩;have O:=iV (jc I.out F);clear F R e1 N J;cases hp:p x
   ·have Z:=iV hp;clear hp;go_wp2;go_roundw
    case rel=>exact⟨k+1,by omega,by go_num,iV (fun y z=>by
     rw[jI U.out] at z;rcases List.mem_append.1 z with z | z
     ·exact M.out y z
     ·rw[List.mem_singleton.1 z];exact Z.out),O⟩
    case measure=>simp[intOf];omega
   ·have E:Hid (WP p l 0=k):=by show _=_;rw[YY U.out M.out hp];omega
    clear hp;go_wp2;go_ret;exact⟨jz E.out.symm,O.out⟩
  ·have E:Hid (WP p l 0=-1):=Mv 0 (fun y z=>M.out y (by rw[tL (by omega)];exact z));go_wp2;go_ret;exact⟨jz E.out.symm,I.out⟩
theorem vl (f:FuncId)(x0:Value)(p:jy->Bool)(A:Option Addr)(c:Nat)(l:List jy)(w:World)(hr:Rd w 2 A l.length (l.flatMap jy.cells))(hl:l.length<=1000000)
  (hcall:∀ (args:Array Value)(w:World),(callFunc f args).run Tryz.prog w=.ok (.enter f args) w)
  (hf:Hid (∀ g∈l,∀ W,Below w.heap.size w W->Calls Tryz.prog f #[g.val,x0] W fun e w'=>e=.returned (.bool (p g))/\Below W.heap.size W w')):Calls Tryz.prog 53 #[.slice A l.length c,.func (.func f) #[] #[x0]] w fun e w'=>e=.returned (.bool (l.any p))/\Below w.heap.size w w':=by
 have z:=iV (yQ f x0 p A c l w hr hl hcall hf);have D:=iV (Rq p l 0 (by omega));generalize WP p l 0=ix at *;clear hr hf;go_in;go_wp2_with fail;refine z.out.mono ?_;rintro e H ⟨rfl,y⟩;have F:=iV y;clear y;go_wp2;go_ret;exact⟨iW D.out,F.out⟩
theorem BP (a b:Int)(hb:lE b)(m v:Value)(kb s:Nat)(x:jy)(w:World)(hk:jh w kb (U9 a b m v))(hs:jh w s [.pointer (some ⟨kb,0,none⟩)]):Calls Tryz.prog 54 #[x.val,.pointer (some ⟨s,0,none⟩)] w fun e w'=>e=.returned (.bool (!zD b x.phase))/\Below w.heap.size w w':=by
 obtain⟨z,y⟩:∃ z,w.alloc (.cells #[.int .i64 x.phase,.string x.body] 59)=z:=⟨_,rfl⟩
 have F:Hid (Below w.heap.size w z):=by show Below _ _ _;rw[<-y];exact bR.alloc lr _
 have I:Hid (jh z w.heap.size [.int .i64 x.phase,.string x.body]):=by show jh _ _ _;rw[<-y];exact jh.new w [.int .i64 x.phase,.string x.body] _
 have N:=(hs.below F.out).cell 0 _ rfl;have O:=(hk.below F.out).cell 1 _ rfl;have M:=I.out.cell 0 _ rfl;have H:=iV fun W=>xo b x.phase hb W;have D:=iV y;clear hk hs y hb;unfold jy.val;go_in;go_upto_region 1 with(fail)
 rw[D.out];go_quiet ((go_at_call 55;exact Calls.quiet_of_same ((H.out _).mono fun _ _ ⟨K,J⟩=>⟨K,J.symm⟩)));go_wp2;go_ret;exact⟨rfl,jj F.out _⟩
end
end Go.Proofs.YtkmjcombhjombaaGreatDoor
