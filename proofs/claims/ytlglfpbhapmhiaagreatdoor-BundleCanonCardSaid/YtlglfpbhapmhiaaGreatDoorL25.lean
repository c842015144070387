/- A part of the proof. -/
import Derived.Test.YtlglfpbhapmhiaaGreatDoorL18
import Derived.Test.YtlglfpbhapmhiaaGreatDoorL20
set_option maxRecDepth 100000
set_option maxHeartbeats 20000000
set_option linter.unusedVariables false
set_option linter.unusedSimpArgs false
namespace Go.Proofs.YtlglfpbhapmhiaaGreatDoor
variable{OP:BA}{l l' l1 nm op:LU}{a b cc deep f hi m m' n n' n1 o r:Nat}{A:OA}{W W' w w' w2 wb wr:World}
section
open Go.RowKit Go.Deep
theorem Hj:∀ f:Nat,(∀ deep n l t l' n',iN f deep n l=some (t,l',n')->l'.length<l.length)/\(∀ deep n acc op l t l' n',lM f deep n acc op l=some (t,l',n')->l'.length<l.length)
 | 0=>⟨fun _ _ _ _ _ _ h=>by simp[iN] at h,fun _ _ _ _ _ _ _ _ h=>by simp[lM] at h⟩
 | f+1=>by
  obtain⟨ih1,ih2⟩:=Hj f;have skip:∀ l:LU,(bw l).length<=l.length:=Ms;constructor
  ·intro deep n l t l' n' h;unfold iN at h;split at h
   ·simp at h
   ·rename_i h0;have hl:bd l≠[]:=fun e=>h0 (.inl e);have hlt:=kw hl;split at h
    ·split at h
     ·simp at h
     ·have:=ih2 _ _ _ _ _ _ _ _ h;omega
    ·unfold jE at h;split at h
     ·simp at h
     ·split at h
      ·unfold mW at h;split at h
       ·simp only[Option.some.injEq,Prod.mk.injEq] at h;obtain⟨_,rfl,_⟩:=h;exact hlt
       ·unfold kX at h;split at h
        ·simp at h
        ·split at h
         ·simp only[Option.some.injEq,Prod.mk.injEq] at h;obtain⟨_,rfl,_⟩:=h;have a1:=skip (bw l);have a2:=skip (bw (bw l));omega
         ·simp at h
      ·simp at h
  ·intro deep n acc op l t l' n' h;unfold lM at h;split at h
   ·simp at h
   ·rename_i k l1 n1 hd;have h1:=ih1 _ _ _ _ _ _ hd;split at h
    ·simp only[Option.some.injEq,Prod.mk.injEq] at h;obtain⟨_,rfl,_⟩:=h;have:=skip l1;omega
    ·split at h
     ·have h2:=ih2 _ _ _ _ _ _ _ _ h;have:=skip l1;omega
     ·simp at h
theorem bT.grown2 {lo:Nat}{old new:Option Nat}{t:an}(h:bT wb lo old t)(hg:wb.grownBy w2 old)(hn:new=old\/new=some wb.heap.size):bT w2 lo new t:=by
 induction h with
 | mk t row ne _ ih=>
  have hr:(Value.slice t.ka t.kids.length t.kc).ownBlock=none\/(Value.slice t.ka t.kids.length t.kc).ownBlock≠old:=by
   cases hb:(Value.slice t.ka t.kids.length t.kc).ownBlock with
   | none=>exact .inl rfl
   | some g=>exact .inr (ne g hb)
  refine .mk t (row.kept hg hr) (fun g hb e=>?_) ih;rcases hn with rfl | rfl
  ·exact ne g hb e
  ·injection e with e;have:=(row.lt g hb).2;omega
structure AK (w wr:World) (a hi:Nat) (l:LU) (n r:Nat) (OP:BA) (ks:List an) (A:OA) (m cc:Nat):Prop where
 len:ks.length=m
 box:ax wr w.heap.size [.string OP,.string ⟨#[]⟩,.int .i64 0,.string ⟨#[]⟩,.slice A m cc]
 row:wr.ownsRow (w.heap.size+1) 170 5 (.slice A m cc) m (ks.flatMap an.cells)
 kids:∀ k∈ks,bT wr (w.heap.size+1) (Value.slice A m cc).ownBlock k
 good:∀ k∈ks,gL k
 pr:PR wr a hi l n r
 gr:w.grownBy wr (some a)
 lt:hi<=w.heap.size
theorem AK.start (h:PR w a hi l n r)(t:TypeId):AK w (w.alloc (.cells #[.string ⟨#[]⟩,.string ⟨#[]⟩,.int .i64 0,.string ⟨#[]⟩,.slice none 0 0] t)) a hi l n r ⟨#[]⟩ [] none 0 0:=
 ⟨rfl,ax.new w _ t,World.ownsRow_nil _ _ _ _,by simp,by simp,h.alloc _,dW (bR.alloc lr _) _,h.hz⟩
theorem AK.alt {ks:List an}(h:AK w wr a hi l n r OP ks A m cc):a<w.heap.size:=by have:=h.pr.lt;have:=h.lt;omega
theorem AK.step {r':Nat}{ks:List an}(h:AK w wr a hi l n r OP ks A m cc)(hg:wr.grownBy w' (some a))(hd:PR w' a hi l' n' r'):AK w w' a hi l' n' r' OP ks A m cc:=by
 have hlt:=h.alt;exact⟨h.len,h.box.grownBy hg (by simp;omega),aP h.row (by omega) hg,fun k hk=>(h.kids k hk).kept (by omega) hg,h.good,hd,ak h.gr hg,h.lt⟩
theorem AK.below {ks:List an}(h:AK w wr a hi l n r OP ks A m cc)(hb:Below wr.heap.size wr w'):AK w w' a hi l n r OP ks A m cc:=
 h.step (dW hb _) (h.pr.below hb)
theorem AK.put {ks:List an}(h:AK w wr a hi l n r OP ks A m cc)(P:BA):AK w (wr.setCell ⟨w.heap.size,0,none⟩ (.string P)) a hi l n r P ks A m cc:=
 ⟨h.len,h.box.set 0 (by simp) _,aP h.row (by omega) (aW _),fun k hk=>(h.kids k hk).kept (by omega) (aW _),h.good,h.pr.far h.lt _,iL h.gr (aW _) (fun j e=>by injection e with e;omega),h.lt⟩
theorem AK.grow {ks:List an}{A1:OA}{c1:Nat}{T:an}(h:AK w wb a hi l n r OP ks A m cc)(hT:bT wb (w.heap.size+1) (Value.slice A m cc).ownBlock T)(hgd:gL T)
  (hr:w2.ownsRow (w.heap.size+1) 170 5 (.slice A1 (m+1) c1) (m+1) (ks.flatMap an.cells++T.cells))
  (hg:wb.grownBy w2 (Value.slice A m cc).ownBlock)(ha:(Value.slice A1 (m+1) c1).ownBlock=(Value.slice A m cc).ownBlock\/(Value.slice A1 (m+1) c1).ownBlock=some wb.heap.size):
  AK w (w2.setCell ⟨w.heap.size,4,none⟩ (.slice A1 (m+1) c1)) a hi l n r OP (ks++[T]) A1 (m+1) c1:=by
 have far:∀ j,(Value.slice A m cc).ownBlock=some j->w.heap.size+1<=j:=fun j hj=>(h.row.lt j hj).1;have hz:=h.lt;have bx:ax w2 w.heap.size [.string OP,.string ⟨#[]⟩,.int .i64 0,.string ⟨#[]⟩,.slice A m cc]:=h.box.grownBy hg (fun e=>by have:=far _ e.symm;omega);refine⟨by simp[h.len],bx.set 4 (by simp) _,?_,fun k hk=>?_,fun k hk=>?_,?_,?_,h.lt⟩
 ·rw[List.flatMap_append];exact aP (by simpa using hr) (by omega) (aW _)
 ·refine bT.kept ?_ (by omega) (aW _);rcases List.mem_append.1 hk with hk | hk
  ·exact(h.kids k hk).grown2 hg ha
  ·obtain rfl:=List.mem_singleton.1 hk;exact hT.grown2 hg ha
 ·rcases List.mem_append.1 hk with hk | hk
  ·exact h.good k hk
  ·obtain rfl:=List.mem_singleton.1 hk;exact hgd
 ·exact(h.pr.grown hg (fun j e=>by have:=far j e;omega)).far hz _
 ·exact iL (iL h.gr hg (fun j e=>by have:=far j e;omega)) (aW _) (fun j e=>by injection e with e;omega)
def cG (r:Option (qD×LU×Nat))(a hi m deep n:Nat)(w:World)(e:Ending)(w':World):Prop:=
 w.grownBy w' (some a)/\match r with
  | none=>∃ (f:BA) (x c:Int),e=.returned (.tuple #[mX.val,fj f x c])/\c≠0
  | some (t,l',n')=>∃ (T:an) (m':Nat),e=.returned (.tuple #[T.val,fj ⟨#[]⟩ 0 0])/\T.pl=t/\gL T/\bT w' w.heap.size none T/\T.ht+deep<=32/\n'=n+T.cnt/\n'<=64/\PR w' a hi l' n' m'/\m'<m
theorem cG.no {r:Option (qD×LU×Nat)}{f:BA}{x c:Int}(hr:r=none)(hg:w.grownBy w' (some a))(hc:c≠0):cG r a hi m deep n w (.returned (.tuple #[mX.val,fj f x c])) w':=by
 subst hr;exact⟨hg,f,x,c,rfl,hc⟩
theorem cG.yes {r:Option (qD×LU×Nat)}{T:an}(hr:r=some (T.pl,l',n'))(hg:w.grownBy w' (some a))(h1:gL T)(h2:bT w' w.heap.size none T)(h3:T.ht+deep<=32)(h4:n'=n+T.cnt)(h5:n'<=64)(h6:PR w' a hi l' n' m')(h7:m'<m):cG r a hi m deep n w (.returned (.tuple #[T.val,fj ⟨#[]⟩ 0 0])) w':=by
 subst hr;exact⟨hg,T,m',rfl,rfl,h1,h2,h3,h4,h5,h6,h7⟩
theorem JH {acc:List qD}(h:iN f deep n l=none):lM (f+1) deep n acc op l=none:=by unfold lM;rw[h]
theorem Mx {acc:List qD}{k:qD}(h:iN f deep n l=some (k,l1,n1))(h1:bd l1=[41])(h2:acc≠[]):lM (f+1) deep n acc op l=some (.node op (acc++[k]),bw l1,n1):=by
 unfold lM;rw[h];simp only;rw[if_pos ⟨h1,h2⟩]
theorem JI {acc:List qD}{k:qD}(h:iN f deep n l=some (k,l1,n1))(h1:¬ (bd l1=[41]/\acc≠[]))(h2:aM op (acc.length+1) (bd l1)=true):lM (f+1) deep n acc op l=lM f deep n1 (acc++[k]) (if acc=[] then bd l1 else op) (bw l1):=by
 rw[lM,h];simp only;rw[if_neg h1,if_pos h2]
theorem My {acc:List qD}{k:qD}(h:iN f deep n l=some (k,l1,n1))(h1:¬ (bd l1=[41]/\acc≠[]))(h2:aM op (acc.length+1) (bd l1)=false):lM (f+1) deep n acc op l=none:=by
 rw[lM,h];simp only;rw[if_neg h1,if_neg (by simp[h2])]
structure qf (w W:World) (a hi:Nat) (l:LU) (n m:Nat):Prop where
 two:yD W w.heap.size
 pr:PR W a hi l n m
 gr:w.grownBy W (some a)
 gl:qU a W
 lt:hi<=w.heap.size
theorem qf.alt (h:qf w W a hi l n m):a<w.heap.size:=by have:=h.pr.lt;have:=h.lt;omega
theorem qf.start (hG:qU a w)(h:PR w a hi l n m)(t t':TypeId):qf w ((w.alloc (.cells #[.string ⟨#[]⟩,.string ⟨#[]⟩,.int .i64 0,.string ⟨#[]⟩,.slice none 0 0] t)).alloc (.cells #[.string ⟨#[]⟩,.int .i64 0,.int .i64 0] t')) a hi l n m:=by
 have B:Below w.heap.size w ((w.alloc (.cells #[.string ⟨#[]⟩,.string ⟨#[]⟩,.int .i64 0,.string ⟨#[]⟩,.slice none 0 0] t)).alloc (.cells #[.string ⟨#[]⟩,.int .i64 0,.int .i64 0] t')):=(bR.alloc lr _).alloc (by simp) _;exact⟨yD.new w t t',h.below B,dW B _,hG.below B,h.hz⟩
theorem qf.step (h:qf w W a hi l n m)(hg:W.grownBy W' (some a))(hd:PR W' a hi l' n' m'):qf w W' a hi l' n' m':=
 ⟨h.two.step hg h.alt,hd,ak h.gr hg,h.gl.kept hg,h.lt⟩
theorem qf.below (h:qf w W a hi l n m)(hb:Below W.heap.size W W'):qf w W' a hi l n m:=h.step (dW hb _) (h.pr.below hb)
theorem qf.far {j:Nat}(h:qf w W a hi l n m)(hb:w.heap.size+2<=b)(v:Value):qf w (W.setCell ⟨b,j,none⟩ v) a hi l n m:=by
 have h1:=h.lt;refine⟨⟨h.two.b0.far (by omega) v,h.two.b1.far (by omega) v⟩,h.pr.far (by omega) v,ap h.gr (.inr (by show _<=b;omega)) v,?_,h1⟩;obtain⟨w0,g1,g2,g3⟩:=h.gl;have h2:=h.pr.lt;exact⟨w0,g1,ai g2 (by omega) v,g3⟩
theorem ax.stay {vs:LV}(k:ax W b vs)(h:qf w W a hi l n m)(hb:w.heap.size<=b)(hg:W.grownBy W' (some a)):ax W' b vs:=k.grownBy hg (by have:=h.alt;simp;omega)
theorem vv (W:World)(lo:Nat)(bad:Option Nat)(nm:BA)(o:Nat)(v:BA):bT W lo bad (.mk ⟨#[]⟩ nm o v none 0 []):=
 .mk _ (World.ownsRow_nil _ _ _ _) (fun g hg=>by simp[an.ka,an.kc,Value.ownBlock] at hg) (fun k hk=>by simp[an.kids] at hk)
theorem JJ (l:LU):jE 64 l=none:=by unfold jE;rw[if_pos rfl]
theorem Mz (h:Fl (bd l)=0):mW nm n l=some (.atom nm 0 [],l,n):=by unfold mW;rw[if_pos h]
theorem Pe (h:Fl (bd l)≠0):mW nm n l=kX nm (Fl (bd l)) n (bw l):=by unfold mW;rw[if_neg h]
theorem Fz (h:bd l=[]\/bd l=[40]\/bd l=[41]):kX nm o n l=none:=by unfold kX;rw[if_pos h]
theorem Cr (h:dm 2 (bU (bd l))≠0):kX nm o n l=none:=by
 unfold kX;split
 ·rfl
 ·simp[h]
theorem MB (h0:¬ (bd l=[]\/bd l=[40]\/bd l=[41]))(h:dm 2 (bU (bd l))=0):kX nm o n l=some (.atom nm o (bd l),bw l,n):=by unfold kX;rw[if_neg h0,if_pos h]
theorem QZ (p:LU):Fl p<=5:=by unfold Fl;(repeat' split)<;>omega
theorem MC {p:LU}(h:Fl p≠0):p≠[]:=by rintro rfl;exact h rfl
theorem JK (a hi n m deep:Nat)(l:LU)(w:World)(hG:qU a w)(h:PR w a hi l n m)(hn:n<=64)(hd:deep<=32):Calls Tryz.prog 213 #[.pointer (some ⟨a,0,none⟩)] w (cG (jE n l) a hi m deep n w):=by
 obtain⟨W0,hW0⟩:∃ W0,(w.alloc (.cells #[.string ⟨#[]⟩,.string ⟨#[]⟩,.int .i64 0,.string ⟨#[]⟩,.slice none 0 0] 170)).alloc (.cells #[.string ⟨#[]⟩,.int .i64 0,.int .i64 0] 163)=W0:=⟨_,rfl⟩
 have S0:Hid (qf w W0 a hi l n m):=by rw[<-hW0];exact qf.start hG h _ _
 have z0:W0.heap.size=w.heap.size+2:=by rw[<-hW0];simp
 obtain⟨b,off,c,T,p,k,hT,h2⟩:=S0.out.pr.cells;have HT:=ae hT;obtain⟨c0,c1,f0,f1,t0,t1,ne,m1,mc,cz,tz⟩:=k;clear h h2 hT;obtain⟨W1,hW1⟩:∃ W1,W0.alloc (.cells #[.string T,.int .i64 p] 221)=W1:=⟨_,rfl⟩
 have S1:Hid (qf w W1 a hi l n m):=by rw[<-hW1];exact S0.out.below (bR.alloc lr _)
 have K1:Hid (ax W1 W0.heap.size [.string T,.int .i64 p]):=by rw[<-hW1];exact ax.new W0 [.string T,.int .i64 p] _
 have HZ0:=ae z0;clear S0 hG z0;go_in;go_upto_region 2 with(fail)
 clear hW0 hW1 c0 c1 f0 f1 t0 t1 ne m1 mc cz;have ha:=S1.out.alt;have k1:=S1.out.pr.cells;obtain⟨b1,off1,c1',T',p',k1,-,-⟩:=k1;have c1:=k1.c1;have f1:=k1.f1;have t0:=K1.out.cell 0 _ rfl;have t1:=K1.out.cell 1 _ rfl;clear k1;by_cases n64:n=64
 ·have EN:Hid (jE n l=none):=by show _=_;rw[n64];exact JJ l
  have q64:((n:Int)==64)=true:=by simp[n64]
  clear n64;go_wp2_with fail;refine(eO T p 4 _).mono ?_;rintro e w2 ⟨rfl,hb⟩;have S2:=ae (S1.out.below hb);have tc:=S2.out.two.c;obtain⟨x0,x1,x2,x3,x4,y0,y1,y2,g0,g1,g2,g3,g4,k0,k1,k2⟩:=tc;clear hb;unfold fj;go_wp2_with fail;refine bodyPost_ret (lN _ S2.out.two.c rfl rfl _ _ _ _ _ _ _ _ ⟨rfl,rfl,rfl,rfl,rfl,rfl,rfl,rfl⟩) rfl ?_;exact cG.no EN.out (cH S2.out.gr lr _ _ _ _ _ _ _ _) (by decide)
 have N64:Hid (n<64):=by show _<_;omega
 have q64:((n:Int)==64)=false:=by simp;omega
 have EN:Hid (jE n l=if ed (bl T) then mW (bl T) (n+1) (bw l) else none):=by
  show _=_;unfold jE;rw[if_neg n64,HT.out]
 clear n64;go_wp2_with fail;refine(nN T _ (by omega)).mono ?_;rintro e w2 ⟨rfl,rfl⟩;cases hnm:ed (bl T) with
 | false=>
  rw[hnm] at EN;clear hnm;go_wp2_with fail;refine(eO T p 10 _).mono ?_;rintro e w2 ⟨rfl,hb⟩;have S2:=ae (S1.out.below hb);have tc:=S2.out.two.c;obtain⟨x0,x1,x2,x3,x4,y0,y1,y2,g0,g1,g2,g3,g4,k0,k1,k2⟩:=tc;clear hb;unfold fj;go_wp2_with fail;refine bodyPost_ret (lN _ S2.out.two.c rfl rfl _ _ _ _ _ _ _ _ ⟨rfl,rfl,rfl,rfl,rfl,rfl,rfl,rfl⟩) rfl ?_;exact cG.no EN.out (cH S2.out.gr lr _ _ _ _ _ _ _ _) (by decide)
 | true=>
 have ER:Hid (jE n l=mW (bl T) (n+1) (bw l)):=by have:=EN.out;rwa [hnm,if_pos rfl] at this
 clear EN;have HNM:=ae hnm;have HL:Hid (bd l≠[]):=by have:=nK hnm;rw[<-ah,HT.out] at this;intro e;rw[e] at this;simp at this
 have P2:Hid (PR (W1.setCell ⟨a,1,none⟩ (.int .i64 ((n:Int)+1))) a hi l (n+1) m):=by have:=S1.out.pr.count (n+1);rwa [show((n+1:Nat):Int)=(n:Int)+1 from by omega] at this
 have S2:=ae (S1.out.step (aW (j:=1) (.int .i64 ((n:Int)+1))) P2.out);have K2:=ae (K1.out.stay S1.out (by have:=HZ0.out;omega) (aW (a:=a) (j:=1) (.int .i64 ((n:Int)+1))));clear hnm;go_wp2_with fail;clear c1 f1 t0 t1;refine(iO a hi (n+1) m l _ P2.out HL.out).mono ?_;rintro e w3 ⟨rfl,hp,hg,hm2⟩;have S3:=ae (S2.out.step hg hp);have K3:=ae (K2.out.stay S2.out (by have:=HZ0.out;omega) hg);have M2:=ae hm2;clear hp hg P2 S2 K2 hm2;have t0:=K3.out.cell 0 _ rfl;go_upto_region 9 with(fail)
 clear t0;obtain⟨W4,hW4⟩:∃ W4,w3.alloc (.cells #[.string ⟨#[]⟩,.string T,.int .i64 0,.string ⟨#[]⟩,.slice none 0 0] 170)=W4:=⟨_,rfl⟩
 have B4:Hid (Below w3.heap.size w3 W4):=by rw[<-hW4];exact bR.alloc lr _
 have D4:Hid (ax W4 w3.heap.size [.string ⟨#[]⟩,.string T,.int .i64 0,.string ⟨#[]⟩,.slice none 0 0]):=by rw[<-hW4];exact ax.new w3 [.string ⟨#[]⟩,.string T,.int .i64 0,.string ⟨#[]⟩,.slice none 0 0] _
 have S4:=ae (S3.out.below B4.out);have K4:=ae (K3.out.below B4.out);have H3:Hid (W0.heap.size<w3.heap.size):=K3.out.sz;rw[hW4];clear hW4;obtain⟨b4,off4,c4,T4,p4,k4,hT4,-⟩:=S4.out.pr.cells;have HT4:=ae hT4;obtain⟨r0,r1,r2,r3,r4,r5,r6,r7,r8,r9,tz4⟩:=k4;have hR:=xt T4 W4 S4.out.gl.gl;obtain⟨o,ho⟩:∃ o,Fl (bl T4)=o:=⟨_,rfl⟩
 rw[ho] at hR;have HO:=ae ho;have ho5:o<=5:=by rw[<-ho];exact QZ _
 clear hT4 ho S3 B4;go_wp2_with fail;clear r0 r1 r2 r3 r4 r5 r6 r7 r8 r9;refine hR.mono ?_;rintro e w5 ⟨rfl,rfl⟩;clear hR;by_cases o0:o=0
 ·have EY:Hid (jE n l=some ((an.mk ⟨#[]⟩ T 0 ⟨#[]⟩ none 0 []).pl,bw l,n+1)):=by
   show _=_;rw[ER.out,tx _ _ _ _ _ _ _ rfl];exact Mz (by rw[<-HT4.out,HO.out,o0])
  have q0:((o:Int)==0)=true:=by simp[o0]
  have tc:=S4.out.two.c;obtain⟨x0,x1,x2,x3,x4,y0,y1,y2,g0,g1,g2,g3,g4,k0,k1,k2⟩:=tc;have d0:=D4.out.cell 0 _ rfl;have d1:=D4.out.cell 1 _ rfl;have d2:=D4.out.cell 2 _ rfl;have d3:=D4.out.cell 3 _ rfl;have d4:=D4.out.cell 4 _ rfl;clear o0;go_wp2_with fail;refine bodyPost_ret (lN _ S4.out.two.c rfl rfl _ _ _ _ _ _ _ _ ⟨rfl,rfl,rfl,rfl,rfl,rfl,rfl,rfl⟩) rfl ?_;exact cG.yes (T:=.mk ⟨#[]⟩ T 0 ⟨#[]⟩ none 0 []) EY.out (cH S4.out.gr lr _ _ _ _ _ _ _ _) (.atom T 0 ⟨#[]⟩ HNM.out (by omega) (fun _=>rfl) (fun h=>by omega)) (vv _ _ _ _ _ _) (by simp[an.ht,Cc];exact hd) (by simp[an.cnt]) (by have:=N64.out;omega) (tA S4.out.pr S4.out.lt _ _ _ _ _ _ _ _) (by have:=M2.out;omega)
 have q0:((o:Int)==0)=false:=by simp[o0]
 have HL4:Hid (bd (bw l)≠[]):=by show ¬ _;rw[<-HT4.out];exact MC (by rw[HO.out];exact o0)
 have EV:Hid (jE n l=kX (bl T) o (n+1) (bw (bw l))):=by show _=_;rw[ER.out,Pe (by rw[<-HT4.out,HO.out];exact o0),<-HT4.out,HO.out]
 have OP:Hid (0<o):=by show _<_;omega
 have HZB:Hid (w.heap.size+2<=W0.heap.size):=by show _<=_;have:=HZ0.out;omega
 clear ER o0 HO HT4;go_wp2_with fail;refine(iO a hi (n+1) (m-1) (bw l) _ S4.out.pr HL4.out).mono ?_;rintro e w5 ⟨rfl,hp,hg,hm2⟩;have S5:=ae (S4.out.step hg hp);have K5:=ae (K4.out.stay S4.out (by have:=HZB.out;omega) hg);have D5:=ae (D4.out.stay S4.out (by have:=HZB.out;have:=H3.out;omega) hg);have M3:=ae hm2;clear hp hg hm2 S4 K4 D4 HL4;have t0:=K5.out.cell 0 _ rfl;have t1:=K5.out.cell 1 _ rfl;have e0:=K5.out.free 0 (by simp);have e1:=K5.out.free 1 (by simp);obtain⟨b5,off5,c5,T5,p5,k5,hT5,hnx⟩:=S5.out.pr.cells;have HT5:=ae hT5;obtain⟨r0,r1,r2,r3,r4,r5,r6,r7,r8,r9,tz5⟩:=k5;clear hT5 hnx;go_upto_region 14 with(fail)
 clear t0 t1 e0 e1 r0 r1 r2 r3 r4 r5 r6 r7 r8 r9;obtain⟨W6,hW6⟩:∃ W6,(w5.setCell ⟨W0.heap.size,0,none⟩ (.string T5)).setCell ⟨W0.heap.size,1,none⟩ (.int .i64 p5)=W6:=⟨_,rfl⟩
 have S6:Hid (qf w W6 a hi (bw (bw l)) (n+1) (m-1-1)):=by rw[<-hW6];exact(S5.out.far HZB.out _).far HZB.out _
 have K6:Hid (ax W6 W0.heap.size [.string T5,.int .i64 p5]):=by rw[<-hW6];exact(K5.out.set 0 (by simp) (.string T5)).set 1 (by simp) (.int .i64 p5)
 have D6:Hid (ax W6 w3.heap.size [.string ⟨#[]⟩,.string T,.int .i64 0,.string ⟨#[]⟩,.slice none 0 0]):=by rw[<-hW6];exact(D5.out.far (by have:=H3.out;omega) _).far (by have:=H3.out;omega) _
 rw[hW6];clear hW6 S5 K5 D5;have t0:=K6.out.cell 0 _ rfl;have t1:=K6.out.cell 1 _ rfl;obtain⟨bb,hbb⟩:∃ bb:Bool,decide (bl T5=[]\/bl T5=[40]\/bl T5=[41])=bb:=⟨_,rfl⟩
 go_cut [74] (fun v wx=>v=.bool bb/\W6=wx)
 case first=>
  by_cases h1:bl T5=[]
  ·have E1:T5.toList=[]:=by rw[aj];exact h1
   have E2:Hid (bb=true):=by show _=_;rw[<-hbb];exact dT (.inl h1)
   clear hbb h1;go_wp2;go_meet;exact⟨by rw[E2.out],rfl⟩
  by_cases h2:bl T5=[40]
  ·have E1:T5.toList=[40]:=by rw[aj];exact h2
   have E2:Hid (bb=true):=by show _=_;rw[<-hbb];exact dT (.inr (.inl h2))
   clear hbb h1 h2;go_wp2;go_meet;exact⟨by rw[E2.out],rfl⟩
  by_cases h3:bl T5=[41]
  ·have E1:T5.toList=[41]:=by rw[aj];exact h3
   have E2:Hid (bb=true):=by show _=_;rw[<-hbb];exact dT (.inr (.inr h3))
   clear hbb h1 h2 h3;go_wp2;go_meet;exact⟨by rw[E2.out],rfl⟩
  ·have E1:(T5.toList==([]:LU))=false:=by rw[aj,bF];exact h1
   have E3:(T5.toList==([40]:LU))=false:=by rw[aj,bF];exact h2
   have E4:(T5.toList==([41]:LU))=false:=by rw[aj,bF];exact h3
   have E5:T5.toList.isEmpty=false:=by rw[aj,List.isEmpty_eq_false_iff];exact h1
   have E2:Hid (bb=false):=by show _=_;rw[<-hbb];exact dF (by rintro(h | h | h)<;>contradiction)
   clear hbb h1 h2 h3;go_wp2;go_meet;exact⟨by rw[E2.out],rfl⟩
 case rest=>
 obtain⟨rfl,rfl⟩:=hcut;cases bb with
 | true=>
  have EN:Hid (jE n l=none):=by show _=_;rw[EV.out];exact Fz (by rw[<-HT5.out];exact dO hbb)
  clear hbb;go_wp2_with fail;refine(eO T5 p5 3 _).mono ?_;rintro e w2 ⟨rfl,hb⟩;have S2:=ae (S6.out.below hb);have tc:=S2.out.two.c;obtain⟨x0,x1,x2,x3,x4,y0,y1,y2,g0,g1,g2,g3,g4,k0,k1,k2⟩:=tc;clear hb;unfold fj;go_wp2_with fail;refine bodyPost_ret (lN _ S2.out.two.c rfl rfl _ _ _ _ _ _ _ _ ⟨rfl,rfl,rfl,rfl,rfl,rfl,rfl,rfl⟩) rfl ?_;exact cG.no EN.out (cH S2.out.gr lr _ _ _ _ _ _ _ _) (by decide)
 | false=>
 have HB:Hid (¬ (bd (bw (bw l))=[]\/bd (bw (bw l))=[40]\/bd (bw (bw l))=[41])):=by rw[<-HT5.out];exact of_decide_eq_false hbb
 clear hbb;obtain⟨ve,hve⟩:∃ ve,dm 2 T5=ve:=⟨_,rfl⟩
 have HV:=ae hve;have hVC:=aZ 2 T5 W6 S6.out.gl.gl (by omega);rw[hve] at hVC;clear hve;go_wp2_with fail;clear t0 t1;refine hVC.mono ?_;rintro e w7 ⟨rfl,hb7⟩;have S7:=ae (S6.out.below hb7);have K7:=ae (K6.out.below hb7);have D7:=ae (D6.out.below hb7);have t0:=K7.out.cell 0 _ rfl;have t1:=K7.out.cell 1 _ rfl;clear hb7 hVC S6 K6 D6;by_cases hv0:ve=0
 ·have q1:(ve != 0)=false:=by simp[hv0]
  have EY:Hid (jE n l=some ((an.mk ⟨#[]⟩ T o T5 none 0 []).pl,bw (bw (bw l)),n+1)):=by
   show _=_;rw[EV.out,tx _ _ _ _ _ _ _ rfl,MB HB.out (by rw[<-HT5.out,oz,HV.out,hv0]),HT5.out]
  have VZ:Hid (dm 2 T5=0):=by show _=_;rw[HV.out,hv0]
  have HL5:Hid (bd (bw (bw l))≠[]):=fun e=>HB.out (.inl e);clear hv0;go_wp2_with fail;refine(iO a hi (n+1) (m-1-1) (bw (bw l)) _ S7.out.pr HL5.out).mono ?_;rintro e w8 ⟨rfl,hp,hg,hm3⟩;have S8:=ae (S7.out.step hg hp);have K8:=ae (K7.out.stay S7.out (by have:=HZB.out;omega) hg);have D8:=ae (D7.out.stay S7.out (by have:=HZB.out;have:=H3.out;omega) hg);have M4:=ae hm3;clear hp hg hm3 S7 K7 D7 t0 t1;have t0:=K8.out.cell 0 _ rfl;have d0:=D8.out.cell 0 _ rfl;have d1:=D8.out.cell 1 _ rfl;have d2:=D8.out.cell 2 _ rfl;have d3:=D8.out.cell 3 _ rfl;have d4:=D8.out.cell 4 _ rfl;have h2:=D8.out.free 2 (by simp);have h3:=D8.out.free 3 (by simp);have hne:¬ W0.heap.size=w3.heap.size:=by have:=H3.out;omega
  have hne2:¬ w3.heap.size=W0.heap.size:=by have:=H3.out;omega
  go_wp2;go_region;clear t0 d0 d1 d2 d3 d4 h2 h3 hne hne2;obtain⟨W9,hW9⟩:∃ W9,((w8.setCell ⟨w3.heap.size,2,none⟩ (.int .i64 o)).setCell ⟨w3.heap.size,3,none⟩ (.string T5)).drew=W9:=⟨_,rfl⟩
  have hd3:w.heap.size+2<=w3.heap.size:=by have:=H3.out;have:=HZB.out;omega
  have S9:Hid (qf w W9 a hi (bw (bw (bw l))) (n+1) (m-1-1-1)):=by rw[<-hW9];exact((S8.out.far hd3 _).far hd3 _).below ⟨rfl,rfl,rfl,lr,fun _ _=>rfl⟩
  have D9:Hid (ax W9 w3.heap.size [.string ⟨#[]⟩,.string T,.int .i64 o,.string T5,.slice none 0 0]):=by rw[<-hW9];exact((D8.out.set 2 (by simp) (.int .i64 o)).set 3 (by simp) (.string T5)).drew
  rw[hW9];clear hW9 S8 K8 D8;have tc:=S9.out.two.c;obtain⟨x0,x1,x2,x3,x4,y0,y1,y2,g0,g1,g2,g3,g4,k0,k1,k2⟩:=tc;have d0:=D9.out.cell 0 _ rfl;have d1:=D9.out.cell 1 _ rfl;have d2:=D9.out.cell 2 _ rfl;have d3:=D9.out.cell 3 _ rfl;have d4:=D9.out.cell 4 _ rfl;go_wp2_with fail;refine bodyPost_ret (lN _ S9.out.two.c rfl rfl _ _ _ _ _ _ _ _ ⟨rfl,rfl,rfl,rfl,rfl,rfl,rfl,rfl⟩) rfl ?_;exact cG.yes (T:=.mk ⟨#[]⟩ T o T5 none 0 []) EY.out (cH S9.out.gr lr _ _ _ _ _ _ _ _) (.atom T o T5 HNM.out ho5 (fun h=>by have:=OP.out;omega) (fun _=>VZ.out)) (vv _ _ _ _ _ _) (by simp[an.ht,Cc];exact hd) (by simp[an.cnt]) (by have:=N64.out;omega) (tA S9.out.pr S9.out.lt _ _ _ _ _ _ _ _) (by have:=M2.out;omega)
 ·have q1:(ve != 0)=true:=by simp[hv0]
  have EN:Hid (jE n l=none):=by show _=_;rw[EV.out];exact Cr (by rw[<-HT5.out,oz,HV.out];exact hv0)
  have HVN:=wQ.mk hv0;clear hv0;go_wp2_with fail;refine(eO T5 p5 ve _).mono ?_;rintro e w2 ⟨rfl,hb⟩;have S2:=ae (S7.out.below hb);have tc:=S2.out.two.c;obtain⟨x0,x1,x2,x3,x4,y0,y1,y2,g0,g1,g2,g3,g4,k0,k1,k2⟩:=tc;clear hb;unfold fj;go_wp2_with fail;refine bodyPost_ret (lN _ S2.out.two.c rfl rfl _ _ _ _ _ _ _ _ ⟨rfl,rfl,rfl,rfl,rfl,rfl,rfl,rfl⟩) rfl ?_;exact cG.no EN.out (cH S2.out.gr lr _ _ _ _ _ _ _ _) HVN.out
end
end Go.Proofs.YtlglfpbhapmhiaaGreatDoor
