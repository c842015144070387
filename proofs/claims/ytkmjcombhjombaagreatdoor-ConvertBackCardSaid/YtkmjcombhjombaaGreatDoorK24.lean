/- A part of the proof. -/
import Derived.Test.YtkmjcombhjombaaGreatDoorK23
set_option maxRecDepth 100000
set_option maxHeartbeats 20000000
set_option linter.unusedVariables false
set_option linter.unusedSimpArgs false
namespace Go.Proofs.YtkmjcombhjombaaGreatDoor
variable{s:BA}{bar:Bool}{a b fmt:Int}{vs:List Value}{k:Nat}{W w w1:World}
theorem wz (s:BA)(c:UInt8)(k:Nat)(h:k<s.size)(h0:((bl s).take k).contains c=false)(h1:(s[k]==c)=false):((bl s).take (k+1)).contains c=false:=by
 rw[tS (by rw[iX];exact h),qt s k h];rw[Bool.eq_false_iff] at *;simp at *;exact⟨h0,fun h=>h1 h.symm⟩
section
open Go.RowKit
theorem rL {n:Nat}(hb:Below n W w1):(∀ b o,b<n->w1.cell? ⟨b,o,none⟩=W.cell? ⟨b,o,none⟩)/\(∀ b o,b<n->w1.frozen? ⟨b,o,none⟩=W.frozen? ⟨b,o,none⟩):=
 ⟨fun b o h=>hb.cell (p:=⟨b,o,none⟩) h,fun b o h=>hb.frozen (p:=⟨b,o,none⟩) h⟩
theorem Vj (s:BA)(c:UInt8)(k:Nat)(h:k<s.size)(h0:((bl s).take k).contains c=false)(h1:s[k]=c):Bk s c=k:=by
 unfold Bk;have key:∀ (l:LU)(k:Nat),(l.take k).contains c=false->l[k]?=some c->Lib.indexByte l c=k:=by
  intro l
  induction l with
  | nil=>intro k _ h;simp at h
  | cons b r ih=>
   intro k h0 h1;cases k with
   | zero=>simp at h1;subst h1;simp[Lib.indexByte]
   | succ k=>
    simp at h1;rw[List.take_succ_cons,List.contains_cons,Bool.or_eq_false_iff] at h0;have z:(b==c)=false:=by have:=h0.1;simp at this |-;exact fun e=>this e.symm
    have y:=ih k h0.2 h1;simp only[Lib.indexByte,z,y];rw[if_neg (by simp),if_neg (by simp;try omega)];omega
 exact key (bl s) k h0 (by rw[qJ s k h,h1])
theorem CD (s:BA)(c:UInt8)(w:World)(hs:s.size<=9223372036854775807):Calls Tryz.prog 77 #[.string s,.int .u8 c.toNat] w fun e w'=>e=.returned (.int .i64 (Bk s c))/\w=w':=by
 go_in;go_wp2;go_loop [5] (fun i=>∃ k:Nat,k<=s.size/\i=.int .i64 k/\Hid (((bl s).take k).contains c=false)) (fun i=>s.size-(intOf i).toNat)
 case atStart=>exact⟨0,z0,rfl,by simp[Hid]⟩
 case round=>
  obtain⟨k,I,rfl,F⟩:=hrel;by_cases z:k<s.size
  ·by_cases y:s[k]=c
   ·have H:((s[k].toNat:Int)==(c.toNat:Int))=true:=by rw[y];simp
    have D:=iV y;clear y;go_wp2;go_ret;exact⟨jz (Vj s c k z F.out D.out).symm,rfl⟩
   ·have H:((s[k].toNat:Int)==(c.toNat:Int))=false:=by
     simp only[bF,ne_eq];intro h;apply y;apply UInt8.toNat_inj.1;omega
    have D:=iV y;clear y;go_wp2;go_round
    case rel=>exact⟨k+1,by omega,by go_num,iV (wz s c k z F.out (by simpa using D.out))⟩
    case measure=>simp[intOf];omega
  ·go_wp2;go_ret;exact⟨jz (CC s c (by have:=F.out;rw[px s k (by omega)] at this;exact this)).symm,rfl⟩
theorem Si (c:UInt8)(h:Gc.contains c=true):0<=Bk Jg c/\Bk Jg c<=15:=by
 refine⟨pO Jg c h,?_⟩;have y:c∈Gc:=by simpa using h
 simp only[Gc,List.mem_cons,List.not_mem_nil,or_false] at y;rcases y with rfl | rfl | rfl | rfl | rfl | rfl | rfl | rfl | rfl | rfl | rfl | rfl | rfl | rfl | rfl | rfl<;>decide
theorem NK (c:UInt8)(h:Gc.contains c=false):Bk Jg c<0:=pj Jg c h
theorem Yk:(Tryz.prog.info? 5).map (fun i=>(i.zero,i.size,i.bytes))=some (some (.int .u8 0),1,1):=by kernel_rfl
theorem NO (w:World)(t:TypeId)(x:Value):oP (w.alloc (.cells #[x] t)) (w.heap.size+1) 1 (some ⟨w.heap.size,0,none⟩) 1 [x]:=by
 refine⟨rfl,fun _=>⟨_,rfl,by simp,fun j u y=>?_⟩⟩;cases j with
 | zero=>simp at y;subst y;simp[Addr.add]
 | succ j=>simp at y
theorem KH (w:World)(t:TypeId)(x:Value):oP (w.alloc (.cells #[x] t)).drew (w.heap.size+1) 1 (some ⟨w.heap.size,0,none⟩) 1 [x]:=NO w t x
theorem Bx.grown {w2:World}{row:Option Nat}(h:Bx w w1 vs)(hg:w1.grownBy w2 row)(hr:∀ g,row=some g->w.heap.size<g):Bx w w2 vs:=by
 have z:w2.heap[w.heap.size]?=w1.heap[w.heap.size]?:=hg.block _ h.sz (fun e=>by have:=hr _ e.symm;omega);exact⟨h.bel.grown hg h.bel.size (fun j y=>by have:=hr j y;omega),Nat.lt_of_lt_of_le h.sz hg.size,fun j u D=>(World.cell?_of_block (a:=⟨w.heap.size,j,none⟩) z).trans (h.cell j u D),fun j y=>(World.frozen?_of_block (a:=⟨w.heap.size,j,none⟩) z).trans (h.free j y)⟩
theorem Bx.alloc (h:Bx w w1 vs)(o:Obj):Bx w (w1.alloc o) vs:=h.step (bR.alloc lr o)
def Sj (l:LU)(w:World)(e:Ending)(w':World):Prop:=∃ (A:Option Addr)(n c:Nat),e=.returned (.agg #[.slice A n c,.int .i64 0,.int .i64 (if th l then 0 else 3)])/\Below w.heap.size w w'
theorem ze (s:BA)(w:World)(hs:s.size<=100000)(hev:s.size % 2=0):Calls Tryz.prog 38 #[.string s] w (Sj (bl s) w):=by
 obtain⟨i0,F,N,K,J⟩:=info_parts Yk;go_in;go_wp2;go_loop [3] (fun i=>∃ k:Nat,k<=s.size/\i=.int .i64 k/\Hid (((bl s).take k).all (fun c=>Gc.contains c)=true)) (fun i=>s.size-(intOf i).toNat)
 case atStart=>exact⟨0,z0,rfl,by simp[Hid]⟩
 case round=>
  obtain⟨k,hk,rfl,HA⟩:=hrel;by_cases z:k<s.size
  ·go_wp2_with fail;refine(CD Jg s[k] _ (by decide)).mono ?_;rintro e w' ⟨rfl,rfl⟩;cases hc:Gc.contains s[k]
   ·have R:=NK _ hc;have O:Hid (th (bl s)=false):=rq s k z hc;clear hc;go_wp2_with fail;refine bodyPost_ret (v:=.agg #[.slice none 0 0,.int .i64 0,.int .i64 3]) (by simp[results,Tryz.results38,go_sem]) rfl ⟨_,_,_,by rw[O.out];rfl,?_⟩;exact bR.alloc lr _
   ·have hb:=Si _ hc;have HC:=iV hc;clear hc;go_wp2;go_round
    case rel=>exact⟨k+1,by omega,by go_num,iV (by rw[mt s k z,HA.out,HC.out];rfl)⟩
    case measure=>simp[intOf];omega
  ·have D:Hid ((bl s).all (fun c=>Gc.contains c)=true):=by have:=HA.out;rw[px s k (by omega)] at this;exact this
   have O:Hid (th (bl s)=true):=D.out;have aa:(((s.size:Int) % 2)==1)=false:=by simp;omega
   go_wp2;go_loopw [4,5] (fun o i wr=>∃ (j n:Nat) (H:List Value),j<=s.size/\n<=s.size/\i=.int .i64 j/\Hid (j=2*n)/\Hid (wr.ownsRow (w.heap.size+1) 5 1 o n H)/\Hid (Bx w wr [.slice none 0 0,.int .i64 0,.int .i64 0])) (fun _ i _=>s.size-(intOf i).toNat)
   case atStart=>exact⟨0,0,[],by omega,by omega,rfl,rfl,World.ownsRow_nil _ _ _ _,Bx.start w [.slice none 0 0,.int .i64 0,.int .i64 0] _⟩
   case round=>
    obtain⟨j,n,H,hj,hn,rfl,M,I,y⟩:=hrel;obtain⟨Y,X,rfl⟩:=jk I.out;by_cases V:j<s.size
    ·have ab:j+1<s.size:=by have:=M.out;omega
     have ad:n+1<=s.size:=by have:=M.out;omega
     have i2:(j:Int)+1<(s.size:Int):=by omega
     have i3:(0:Int)<=(j:Int)+1:=by omega
     have i4:IntKind.i64.wrap ((j:Int)+1)=(j:Int)+1:=IntWalk.i64_in _ (by omega);have i5:((j:Int)+1).toNat=j+1:=by omega
     have ac:=y.out.sz;go_wp2
     go_region_law (first
      | (refine kr _ (by rfl) _ _ _ (by rfl) (w.heap.size+1) 5 i0 _ 1 1 Tryz.underlying106 F N K J rfl (by omega) (.slice Y n X) n H (by rfl) ((I.out.alloc _).drew) (wr.heap.size+1) (some ⟨wr.heap.size,0,none⟩) 1 1 _ (by rfl) (KH wr _ _) (by simp[Value.oneCell']) (by simp only[maxLen];omega) (by omega) (by simp;omega) ?_
         intro v1 U o2 Z a2)
      | (go_simp;go_at_call 77;refine(CD Jg _ _ (by decide)).mono ?_;rintro e w' ⟨rfl,rfl⟩))
     all_goals
      clear i4;obtain⟨ys,O2⟩:∃ ys,Hid (U.ownsRow (w.heap.size+1) 5 1 v1 (n+1) ys):=⟨_,iV o2⟩
      have X2:Hid (Bx w U [.slice none 0 0,.int .i64 0,.int .i64 0]):=((y.out.alloc _).drewN 1).grown Z (fun g hg=>(I.out.lt g hg).1);clear o2 Z a2;go_wp2;go_roundw
      case rel=>exact⟨j+2,n+1,_,by omega,by omega,by go_num,iV (by have:=M.out;omega),O2,X2⟩
      case measure=>simp[intOf];omega
    ·have c0:=y.out.cell 0 _ rfl;have c1:=y.out.cell 1 _ rfl;have c2:=y.out.cell 2 _ rfl;have f0:=y.out.free 0 (by simp);have f1:=y.out.free 1 (by simp);have f2:=y.out.free 2 (by simp);go_wp2_with fail;refine bodyPost_ret (v:=.agg #[.slice Y n X,.int .i64 0,.int .i64 0]) (by simp[results,Tryz.results38,go_sem,c0,c1,c2]) rfl ⟨_,_,_,by rw[O.out];rfl,?_⟩;exact((y.out.bel.setCell lr _).setCell lr _).setCell lr _
def qZ (x y:jf):Bool:=rn x.nm y.nm&&(x.op==y.op)&&rn x.ver y.ver
theorem VM (x y:jf)(w:World):(binOp .neq 78 (.agg #[.string x.nm,.int .i64 x.op,.string x.ver]) (.agg #[.string y.nm,.int .i64 y.op,.string y.ver])).run Tryz.prog w=.ok (.bool (!qZ x y)) w:=by
 go_simp;unfold qZ rn
 (repeat' split)<;>simp_all
def qx (p q:jn):Bool:=rn p.nm q.nm&&rn p.ver q.ver&&rn p.ar q.ar&&rn p.sm q.sm&&xx rn p.needs q.needs&&xx rn p.bars q.bars&&xx qZ p.gives q.gives&&xx qa p.files q.files&&xx mT p.scripts q.scripts
theorem Hu {p q:jn}(h0:rn p.nm q.nm=true)(h1:rn p.ver q.ver=true)(h2:rn p.ar q.ar=true)(h3:rn p.sm q.sm=true)(h4:xx rn p.needs q.needs=true)(h5:xx rn p.bars q.bars=true)(h6:xx qZ p.gives q.gives=true)(h7:xx qa p.files q.files=true)(h8:xx mT p.scripts q.scripts=true):qx p q=true:=by
 simp[qx,h0,h1,h2,h3,h4,h5,h6,h7,h8]
theorem Dp {p q:jn}(h:p.gives.length≠q.gives.length\/p.files.length≠q.files.length\/p.scripts.length≠q.scripts.length):qx p q=false:=by
 unfold qx;rcases h with h | h | h
 ·rw[rT qZ _ _ h];simp
 ·rw[rT qa _ _ h];simp
 ·rw[rT mT _ _ h];simp
theorem Yx (p q:jn)(w:World)(hp:p.ok w)(hq:q.ok w)(fp:p.fits)(fq:q.fits):Calls Tryz.prog 12 #[p.val,q.val] w fun e w'=>e=.returned (.bool (qx p q))/\Below w.heap.size w w':=by
 have HW:Hid (Below w.heap.size w ((w.alloc (.cells #[.string p.nm,.string p.ver,.string p.ar,.string p.sm,.slice p.na p.needs.length p.nc,.slice p.ba p.bars.length p.bc,.slice p.ga p.gives.length p.gc,.slice p.fa p.files.length p.fc,.slice p.sa p.scripts.length p.sc] 38)).alloc (.cells #[.string q.nm,.string q.ver,.string q.ar,.string q.sm,.slice q.na q.needs.length q.nc,.slice q.ba q.bars.length q.bc,.slice q.ga q.gives.length q.gc,.slice q.fa q.files.length q.fc,.slice q.sa q.scripts.length q.sc] 38))):=(bR.alloc lr _).alloc (by simp) _;have HP:=iV (hp.below HW.out);have HQ:=iV (hq.below HW.out);have FP:=iV fp;have FQ:=iV fq;clear hp hq fp fq;unfold jn.val;cases h0:(p.nm.toList==q.nm.toList)
 ·have E:Hid (qx p q=false):=by show _=_;simp[qx,rn,h0]
  go_in;go_wp2;go_ret;exact⟨iW E.out.symm,HW.out⟩
 cases h1:(p.ver.toList==q.ver.toList)
 ·have E:Hid (qx p q=false):=by show _=_;simp[qx,rn,h1]
  go_in;go_wp2;go_ret;exact⟨iW E.out.symm,HW.out⟩
 cases h2:(p.ar.toList==q.ar.toList)
 ·have E:Hid (qx p q=false):=by show _=_;simp[qx,rn,h2]
  go_in;go_wp2;go_ret;exact⟨iW E.out.symm,HW.out⟩
 cases h3:(p.sm.toList==q.sm.toList)
 ·have E:Hid (qx p q=false):=by show _=_;simp[qx,rn,h3]
  go_in;go_wp2;go_ret;exact⟨iW E.out.symm,HW.out⟩
 cases h4:xx rn p.needs q.needs
 ·have E:Hid (qx p q=false):=by show _=_;simp[qx,h4]
  go_in;go_wp2_with fail;refine(kN _ _ _ _ p.needs q.needs _ (by exact HP.out.needs) (by exact HQ.out.needs) FP.out.needs FQ.out.needs).mono ?_;rintro e w1 ⟨rfl,I⟩;have D:=iV I;obtain⟨U,R⟩:=rL D.out;clear I;go_wp2;go_ret;exact⟨iW E.out.symm,HW.out.trans (D.out.mono (by simp;omega))⟩
 cases h5:xx rn p.bars q.bars
 ·have E:Hid (qx p q=false):=by show _=_;simp[qx,h5]
  go_in;go_wp2_with fail;refine(kN _ _ _ _ p.needs q.needs _ (by exact HP.out.needs) (by exact HQ.out.needs) FP.out.needs FQ.out.needs).mono ?_;rintro e w1 ⟨rfl,I⟩;have D:=iV I;obtain⟨U,R⟩:=rL D.out;clear I;go_wp2_with fail;refine(kN _ _ _ _ p.bars q.bars _ (by exact(HP.out.bars.below D.out)) (by exact(HQ.out.bars.below D.out)) FP.out.bars FQ.out.bars).mono ?_;rintro e w2 ⟨rfl,M⟩;have F:=iV (jc D.out M);clear U R;obtain⟨N,ab⟩:=rL F.out;clear M;go_wp2;go_ret;exact⟨iW E.out.symm,HW.out.trans (F.out.mono (by simp;omega))⟩
 by_cases g6:p.gives.length=q.gives.length
 rotate_left
 ·have E:Hid (qx p q=false):=Dp (.inl g6);have al:((p.gives.length:Int) != (q.gives.length:Int))=true:=by simp;omega
  clear g6;go_in;go_wp2_with fail;refine(kN _ _ _ _ p.needs q.needs _ (by exact HP.out.needs) (by exact HQ.out.needs) FP.out.needs FQ.out.needs).mono ?_;rintro e w1 ⟨rfl,I⟩;have D:=iV I;obtain⟨U,R⟩:=rL D.out;clear I;go_wp2_with fail;refine(kN _ _ _ _ p.bars q.bars _ (by exact(HP.out.bars.below D.out)) (by exact(HQ.out.bars.below D.out)) FP.out.bars FQ.out.bars).mono ?_;rintro e w2 ⟨rfl,M⟩;have F:=iV (jc D.out M);clear U R;obtain⟨N,ab⟩:=rL F.out;clear M;go_wp2;go_ret;exact⟨iW E.out.symm,HW.out.trans (F.out.mono (by simp;omega))⟩
 have al:((p.gives.length:Int) != (q.gives.length:Int))=false:=by simp[g6]
 have av:p.gives.length<=q.gives.length:=by omega
 have ap:=FP.out.gives;have G6:=iV g6;clear g6;by_cases g7:p.files.length=q.files.length
 rotate_left
 ·have E:Hid (qx p q=false):=Dp (.inr (.inl g7));have am:((p.files.length:Int) != (q.files.length:Int))=true:=by simp;omega
  clear g7;go_in;go_wp2_with fail;refine(kN _ _ _ _ p.needs q.needs _ (by exact HP.out.needs) (by exact HQ.out.needs) FP.out.needs FQ.out.needs).mono ?_;rintro e w1 ⟨rfl,I⟩;have D:=iV I;obtain⟨U,R⟩:=rL D.out;clear I;go_wp2_with fail;refine(kN _ _ _ _ p.bars q.bars _ (by exact(HP.out.bars.below D.out)) (by exact(HQ.out.bars.below D.out)) FP.out.bars FQ.out.bars).mono ?_;rintro e w2 ⟨rfl,M⟩;have F:=iV (jc D.out M);clear U R;obtain⟨N,ab⟩:=rL F.out;clear M;go_wp2;go_ret;exact⟨iW E.out.symm,HW.out.trans (F.out.mono (by simp;omega))⟩
 have am:((p.files.length:Int) != (q.files.length:Int))=false:=by simp[g7]
 have aq:p.files.length<=q.files.length:=by omega
 have ao:=FP.out.files;have G7:=iV g7;clear g7;by_cases g8:p.scripts.length=q.scripts.length
 rotate_left
 ·have E:Hid (qx p q=false):=Dp (.inr (.inr g8));have ak:((p.scripts.length:Int) != (q.scripts.length:Int))=true:=by simp;omega
  clear g8;go_in;go_wp2_with fail;refine(kN _ _ _ _ p.needs q.needs _ (by exact HP.out.needs) (by exact HQ.out.needs) FP.out.needs FQ.out.needs).mono ?_;rintro e w1 ⟨rfl,I⟩;have D:=iV I;obtain⟨U,R⟩:=rL D.out;clear I;go_wp2_with fail;refine(kN _ _ _ _ p.bars q.bars _ (by exact(HP.out.bars.below D.out)) (by exact(HQ.out.bars.below D.out)) FP.out.bars FQ.out.bars).mono ?_;rintro e w2 ⟨rfl,M⟩;have F:=iV (jc D.out M);clear U R;obtain⟨N,ab⟩:=rL F.out;clear M;go_wp2;go_ret;exact⟨iW E.out.symm,HW.out.trans (F.out.mono (by simp;omega))⟩
 have ak:((p.scripts.length:Int) != (q.scripts.length:Int))=false:=by simp[g8]
 have au:p.scripts.length<=q.scripts.length:=by omega
 have an:=FP.out.scripts;have G8:=iV g8;clear g8;have HS:Hid (rn p.nm q.nm=true/\rn p.ver q.ver=true/\rn p.ar q.ar=true/\rn p.sm q.sm=true/\xx rn p.needs q.needs=true/\xx rn p.bars q.bars=true):=⟨h0,h1,h2,h3,h4,h5⟩
 go_in;go_wp2_with fail;refine(kN _ _ _ _ p.needs q.needs _ (by exact HP.out.needs) (by exact HQ.out.needs) FP.out.needs FQ.out.needs).mono ?_;rintro e w1 ⟨rfl,I⟩;have D:=iV I;obtain⟨U,R⟩:=rL D.out;clear I;go_wp2_with fail;refine(kN _ _ _ _ p.bars q.bars _ (by exact(HP.out.bars.below D.out)) (by exact(HQ.out.bars.below D.out)) FP.out.bars FQ.out.bars).mono ?_;rintro e w2 ⟨rfl,M⟩;have F:=iV (jc D.out M);clear U R;obtain⟨N,ab⟩:=rL F.out;clear M;go_wp2;go_loopw [5] (fun i wr=>∃ (k z:Nat),k<=p.gives.length/\i=.int .i64 k/\wr=w2.drewN z/\Hid (∀ (i:Nat)(x y:jf),i<k->p.gives[i]?=some x->q.gives[i]?=some y->qZ x y=true)) (fun i _=>p.gives.length-(intOf i).toNat)
 case atStart=>exact⟨0,0,z0,rfl,rfl,fun i x y h=>absurd h (Nat.not_lt_zero _)⟩
 case round=>
  obtain⟨k,z,hk,rfl,rfl,ae⟩:=hrel;by_cases aa:k<p.gives.length
  ·obtain⟨x,V⟩:∃ x,p.gives[k]?=some x:=⟨_,gG aa⟩
   have O:k<q.gives.length:=by omega
   obtain⟨y,Y⟩:∃ y,q.gives[k]?=some y:=⟨_,gG O⟩
   obtain⟨b,off,hA,X⟩:=(HP.out.gives.below F.out).elem md k x V;obtain⟨b',ac,Z,H⟩:=(HQ.out.gives.below F.out).elem md k y Y;have e0:=X 0 _ rfl;have f0:=H 0 _ rfl;have e1:=X 1 _ rfl;have f1:=H 1 _ rfl;have e2:=X 2 _ rfl;have f2:=H 2 _ rfl;simp only[Nat.add_zero] at e0 f0;clear X H;have ah:=fun W=>jm (T:=34) (E:=78) (sz:=3) (c:=p.gc) Tryz.underlying34 rfl Tryz.sizeOf78 hA aa W;have ad:=fun W=>jm (T:=34) (E:=78) (sz:=3) (c:=q.gc) Tryz.underlying34 rfl Tryz.sizeOf78 Z O W;have bx:=N w.heap.size 6 (by simp;omega);have ag:=N (w.heap.size+1) 6 (by simp);clear N ab;have HX:=iV V;have HY:=iV Y;clear V Y hA Z;have ai:=VM x y;cases hxy:qZ x y
   ·have E:Hid (qx p q=false):=by show _=_;unfold qx;rw[yi qZ p.gives q.gives k x y HX.out HY.out hxy];simp
    go_wp2;go_quiet (fail);go_wp2;go_ret;exact⟨iW E.out.symm,jj (jj (HW.out.trans (F.out.mono (by simp;omega))) _) _⟩
   ·go_wp2;go_quiet (fail);go_wp2_with fail;have FK:Hid (∀ (i:Nat)(x y:jf),i<k+1->p.gives[i]?=some x->q.gives[i]?=some y->qZ x y=true):=by
     intro i x' y' hi J K;rcases Nat.lt_succ_iff_lt_or_eq.1 hi with h | h
     ·exact ae.out i x' y' h J K
     ·subst h;rw[HX.out] at J;rw[HY.out] at K;injection J with J;injection K with K;subst J K;exact hxy
    go_roundw
    case rel=>exact⟨k+1,_,by omega,by go_num,rfl,FK⟩
    case measure=>simp[intOf];omega
  ·have Q6:Hid (xx qZ p.gives q.gives=true):=uM qZ p.gives q.gives G6.out (fun i x y V Y=>ae.out i x y (by have:=(gS V).1;omega) V Y);go_wp2;go_loopw [6] (fun i wr=>∃ (k z:Nat),k<=p.files.length/\i=.int .i64 k/\wr=w2.drewN z/\Hid (∀ (i:Nat)(x y:jg),i<k->p.files[i]?=some x->q.files[i]?=some y->qa x y=true)) (fun i _=>p.files.length-(intOf i).toNat)
   case atStart=>exact⟨0,_,z0,rfl,rfl,fun i x y h=>absurd h (Nat.not_lt_zero _)⟩
   case round=>
    obtain⟨k,z,hk,rfl,rfl,af⟩:=hrel;by_cases aa:k<p.files.length
    ·obtain⟨x,V⟩:∃ x,p.files[k]?=some x:=⟨_,gG aa⟩
     have O:k<q.files.length:=by omega
     obtain⟨y,Y⟩:∃ y,q.files[k]?=some y:=⟨_,gG O⟩
     obtain⟨b,off,hA,X⟩:=(HP.out.files.below F.out).elem nS k x V;obtain⟨b',ac,Z,H⟩:=(HQ.out.files.below F.out).elem nS k y Y;have e0:=X 0 _ rfl;have f0:=H 0 _ rfl;have e1:=X 1 _ rfl;have f1:=H 1 _ rfl;have e2:=X 2 _ rfl;have f2:=H 2 _ rfl;have e3:=X 3 _ rfl;have f3:=H 3 _ rfl;have e4:=X 4 _ rfl;have f4:=H 4 _ rfl;have e5:=X 5 _ rfl;have f5:=H 5 _ rfl;have e6:=X 6 _ rfl;have f6:=H 6 _ rfl;have e7:=X 7 _ rfl;have f7:=H 7 _ rfl;simp only[Nat.add_zero] at e0 f0;clear X H;have ah:=fun W=>jm (T:=35) (E:=57) (sz:=8) (c:=p.fc) Tryz.underlying35 rfl Tryz.sizeOf57 hA aa W;have ad:=fun W=>jm (T:=35) (E:=57) (sz:=8) (c:=q.fc) Tryz.underlying35 rfl Tryz.sizeOf57 Z O W;have bx:=N w.heap.size 7 (by simp;omega);have ag:=N (w.heap.size+1) 7 (by simp);clear N ab;have HX:=iV V;have HY:=iV Y;clear V Y hA Z;have ai:=Lk x y;cases hxy:qa x y
     ·have E:Hid (qx p q=false):=by show _=_;unfold qx;rw[yi qa p.files q.files k x y HX.out HY.out hxy];simp
      go_wp2;go_quiet (fail);go_wp2;go_ret;exact⟨iW E.out.symm,jj (jj (HW.out.trans (F.out.mono (by simp;omega))) _) _⟩
     ·go_wp2;go_quiet (fail);go_wp2_with fail;have FK:Hid (∀ (i:Nat)(x y:jg),i<k+1->p.files[i]?=some x->q.files[i]?=some y->qa x y=true):=by
       intro i x' y' hi J K;rcases Nat.lt_succ_iff_lt_or_eq.1 hi with h | h
       ·exact af.out i x' y' h J K
       ·subst h;rw[HX.out] at J;rw[HY.out] at K;injection J with J;injection K with K;subst J K;exact hxy
      go_roundw
      case rel=>exact⟨k+1,_,by omega,by go_num,rfl,FK⟩
      case measure=>simp[intOf];omega
    ·have Q7:Hid (xx qa p.files q.files=true):=uM qa p.files q.files G7.out (fun i x y V Y=>af.out i x y (by have:=(gS V).1;omega) V Y);go_wp2;go_loopw [7] (fun i wr=>∃ (k z:Nat),k<=p.scripts.length/\i=.int .i64 k/\wr=w2.drewN z/\Hid (∀ (i:Nat)(x y:jy),i<k->p.scripts[i]?=some x->q.scripts[i]?=some y->mT x y=true)) (fun i _=>p.scripts.length-(intOf i).toNat)
     case atStart=>exact⟨0,_,z0,rfl,rfl,fun i x y h=>absurd h (Nat.not_lt_zero _)⟩
     case round=>
      obtain⟨k,z,hk,rfl,rfl,aj⟩:=hrel;by_cases aa:k<p.scripts.length
      ·obtain⟨x,V⟩:∃ x,p.scripts[k]?=some x:=⟨_,gG aa⟩
       have O:k<q.scripts.length:=by omega
       obtain⟨y,Y⟩:∃ y,q.scripts[k]?=some y:=⟨_,gG O⟩
       obtain⟨b,off,hA,X⟩:=(HP.out.scripts.below F.out).elem nI k x V;obtain⟨b',ac,Z,H⟩:=(HQ.out.scripts.below F.out).elem nI k y Y;have e0:=X 0 _ rfl;have f0:=H 0 _ rfl;have e1:=X 1 _ rfl;have f1:=H 1 _ rfl;simp only[Nat.add_zero] at e0 f0;clear X H;have ah:=fun W=>jm (T:=36) (E:=59) (sz:=2) (c:=p.sc) Tryz.underlying36 rfl Tryz.sizeOf59 hA aa W;have ad:=fun W=>jm (T:=36) (E:=59) (sz:=2) (c:=q.sc) Tryz.underlying36 rfl Tryz.sizeOf59 Z O W;have bx:=N w.heap.size 8 (by simp;omega);have ag:=N (w.heap.size+1) 8 (by simp);clear N ab;have HX:=iV V;have HY:=iV Y;clear V Y hA Z;have ai:=Dn x y;cases hxy:mT x y
       ·have E:Hid (qx p q=false):=by show _=_;unfold qx;rw[yi mT p.scripts q.scripts k x y HX.out HY.out hxy];simp
        go_wp2;go_quiet (fail);go_wp2;go_ret;exact⟨iW E.out.symm,jj (jj (HW.out.trans (F.out.mono (by simp;omega))) _) _⟩
       ·go_wp2;go_quiet (fail);go_wp2_with fail;have FK:Hid (∀ (i:Nat)(x y:jy),i<k+1->p.scripts[i]?=some x->q.scripts[i]?=some y->mT x y=true):=by
         intro i x' y' hi J K;rcases Nat.lt_succ_iff_lt_or_eq.1 hi with h | h
         ·exact aj.out i x' y' h J K
         ·subst h;rw[HX.out] at J;rw[HY.out] at K;injection J with J;injection K with K;subst J K;exact hxy
        go_roundw
        case rel=>exact⟨k+1,_,by omega,by go_num,rfl,FK⟩
        case measure=>simp[intOf];omega
      ·have Q8:Hid (xx mT p.scripts q.scripts=true):=uM mT p.scripts q.scripts G8.out (fun i x y V Y=>aj.out i x y (by have:=(gS V).1;omega) V Y);go_wp2;go_ret;obtain⟨s0,s1,s2,s3,s4,s5⟩:=HS.out;exact⟨iW (Hu s0 s1 s2 s3 s4 s5 Q6.out Q7.out Q8.out).symm,jj (HW.out.trans (F.out.mono (by simp;omega))) _⟩
theorem Wj (A:Option Addr)(n c:Nat)(x y:Int)(w:World):(Instr.field 108 (.agg #[.slice A n c,.int .i64 x,.int .i64 y]) 2).run Tryz.prog w=.ok (.int .i64 y) w:=by kernel_rfl
theorem JH (fmt:Int)(hf:fmt=1\/fmt=2\/fmt=3)(s:BA)(w:World)(hs:s.size<=9223372036854775807):Calls Tryz.prog 22 #[.int .i64 fmt,.string s] w fun e w'=>e=.returned (.bool (pG fmt s))/\Below w.heap.size w w':=by
 have key:∀ n:Nat,Jh fmt=n->pG fmt s=(decide (s.size=n)&&th (bl s)):=fun n V=>by unfold pG;rw[V]
 rcases hf with rfl | rfl | rfl
 ·have K:=iV (key 32 (by decide));clear key;by_cases y:s.size=32
  ·have F:((s.size:Int)==32)=true:=oV y;have z:s.size % 2=0:=by omega
   have E:Hid (pG 1 s=th (bl s)):=by show _=_;rw[K.out,dT y];rfl
   have D:s.size<=100000:=by omega
   clear y;go_in;go_wp2_with fail;refine(ze s _ D z).mono ?_;rintro e N ⟨M,R,O,rfl,I⟩;have J:=iV I;clear I;have U:=fun x=>Wj M R O 0 x N;cases hx:th (bl s)
   ·have H:Hid (pG 1 s=false):=by show _=_;rw[E.out];exact hx
    simp only[Bool.false_eq_true,if_false];go_wp2;go_ret;exact⟨iW (by rw[H.out]),J.out⟩
   ·have H:Hid (pG 1 s=true):=by show _=_;rw[E.out];exact hx
    simp only[if_true];go_wp2;go_ret;exact⟨iW (by rw[H.out]),J.out⟩
  ·have F:((s.size:Int)==32)=false:=om y;have E:Hid (pG 1 s=false):=by show _=_;rw[K.out,dF y];rfl
   clear y;go_in;go_wp2;go_ret;exact⟨iW (by rw[E.out]),bR⟩
 ·have K:=iV (key 64 (by decide));clear key;by_cases y:s.size=64
  ·have F:((s.size:Int)==64)=true:=oV y;have z:s.size % 2=0:=by omega
   have E:Hid (pG 2 s=th (bl s)):=by show _=_;rw[K.out,dT y];rfl
   have D:s.size<=100000:=by omega
   clear y;go_in;go_wp2_with fail;refine(ze s _ D z).mono ?_;rintro e N ⟨M,R,O,rfl,I⟩;have J:=iV I;clear I;have U:=fun x=>Wj M R O 0 x N;cases hx:th (bl s)
   ·have H:Hid (pG 2 s=false):=by show _=_;rw[E.out];exact hx
    simp only[Bool.false_eq_true,if_false];go_wp2;go_ret;exact⟨iW (by rw[H.out]),J.out⟩
   ·have H:Hid (pG 2 s=true):=by show _=_;rw[E.out];exact hx
    simp only[if_true];go_wp2;go_ret;exact⟨iW (by rw[H.out]),J.out⟩
  ·have F:((s.size:Int)==64)=false:=om y;have E:Hid (pG 2 s=false):=by show _=_;rw[K.out,dF y];rfl
   clear y;go_in;go_wp2;go_ret;exact⟨iW (by rw[E.out]),bR⟩
 ·have K:=iV (key 40 (by decide));clear key;by_cases y:s.size=40
  ·have F:((s.size:Int)==40)=true:=oV y;have z:s.size % 2=0:=by omega
   have E:Hid (pG 3 s=th (bl s)):=by show _=_;rw[K.out,dT y];rfl
   have D:s.size<=100000:=by omega
   clear y;go_in;go_wp2_with fail;refine(ze s _ D z).mono ?_;rintro e N ⟨M,R,O,rfl,I⟩;have J:=iV I;clear I;have U:=fun x=>Wj M R O 0 x N;cases hx:th (bl s)
   ·have H:Hid (pG 3 s=false):=by show _=_;rw[E.out];exact hx
    simp only[Bool.false_eq_true,if_false];go_wp2;go_ret;exact⟨iW (by rw[H.out]),J.out⟩
   ·have H:Hid (pG 3 s=true):=by show _=_;rw[E.out];exact hx
    simp only[if_true];go_wp2;go_ret;exact⟨iW (by rw[H.out]),J.out⟩
  ·have F:((s.size:Int)==40)=false:=om y;have E:Hid (pG 3 s=false):=by show _=_;rw[K.out,dF y];rfl
   clear y;go_in;go_wp2;go_ret;exact⟨iW (by rw[E.out]),bR⟩
def vd (fmt:Int)(l:List jA):List jA:=if fmt=3 then l else jY false l++jY true l
theorem vF {a:jf}(h0:0<=a.op):(⟨ke (bl a.nm),(a.op.toNat:Int),ke (bl a.ver)⟩:jf)=a:=by
 obtain⟨nm,op,ver⟩:=a;simp only at h0;rw[oQ,oQ,Int.toNat_of_nonneg h0]
theorem PG (hf:lE fmt){out:List jA}(h:∀ d∈out,d.told fmt)(hc:jt out<=64):
  (∀ t∈kE fmt bar out,(kF fmt bar t).2=0)/\(kE fmt bar out).flatMap (fun t=>(kF fmt bar t).1)=(if fmt=3 then (if bar=true then [] else out) else jY bar out):=by
 rcases hf with rfl | rfl | rfl
 ·rw[if_neg (by decide)];unfold kE;rw[if_pos rfl];by_cases K:jY bar out=[]
  ·rw[if_pos K,K];exact⟨by simp,rfl⟩
  rw[if_neg K];have hb:∀ g∈(jY bar out).map (fun d=>d.alts.map tN),g≠[]/\∀ t∈g,t.bare:=by
   intro g F;obtain⟨d,D,rfl⟩:=List.mem_map.1 F;have y:=h d (mi D).1;refine⟨by simpa using y.ne,fun t ht=>?_⟩;obtain⟨a,O,rfl⟩:=List.mem_map.1 ht;exact Ac (y.each a O)
  have hs:((((jY bar out).map (fun d=>d.alts.map tN))).map List.length).sum<=64:=by
   have:=qF bar out;have e:(((jY bar out).map (fun d=>d.alts.map tN))).map List.length=(jY bar out).map fun d=>d.alts.length:=by
    rw[List.map_map];exact List.map_congr_left fun d _=>by simp
   rw[e];unfold jt at *;omega
  have U:=AU (by simpa using K) hb hs;have ht:kF 1 bar (lO ((jY bar out).map (fun d=>d.alts.map tN)))=(jY bar out,0):=by
   unfold kF;rw[if_pos rfl,U];simp only;unfold wq;rw[if_neg]
   ·congr 1;rw[List.map_map]
    conv=>rhs;rw[<-List.map_id (jY bar out)]
    refine List.map_congr_left fun d D=>?_;obtain⟨H,z⟩:=mi D;have:(d.alts.map tN).map vb=d.alts:=by
     rw[List.map_map];exact yF fun a O=>vF ((h d H).each a O).op0
    show(⟨bar,(d.alts.map tN).map vb⟩:jA)=d;rw[this,<-z]
   ·rw[Bool.not_eq_true,List.any_eq_false];intro g F;obtain⟨d,D,rfl⟩:=List.mem_map.1 F;obtain⟨H,z⟩:=mi D;rw[Bool.not_eq_true,Bool.or_eq_false_iff];constructor
    ·cases bar with
     | false=>rfl
     | true=>simp[(h d H).one z]
    ·rw[List.any_eq_false];intro t ht;obtain⟨a,_,rfl⟩:=List.mem_map.1 ht;simp[tN]
  exact⟨fun t H=>by rw[List.mem_singleton.1 H,ht],by simp[ht]⟩
 ·rw[if_neg (by decide)];unfold kE;rw[if_neg (by decide),if_pos rfl];have key:∀ d∈jY bar out,kF 2 bar (jX (vQ d))=([d],0):=by
   intro d D;obtain⟨H,z⟩:=mi D;have y:=h d H;have Y:=vf H;obtain⟨I,N⟩:=d;simp only at z;subst z
   match N,y,Y with
   | [],y,_=>exact absurd rfl y.ne
   | [g],y,_=>
    have F:=y.each g (by simp);have U:=uY (.one _ (vD F));have e:vQ ⟨I,[g]⟩=lh g:=rfl;have ex:EP (lh g)=g:=vF F.op0;unfold kF;rw[if_neg (by decide),if_pos rfl,e,U];simp only;unfold sk;have hi:Mo (lh g)=true:=rfl;have V:vc (lh g)=[lh g]:=rfl;have R:ws (lh g)=[lh g]:=rfl;cases I with
    | true=>rw[if_pos rfl,if_pos hi,ex]
    | false=>
     rw[if_neg (by simp),V];simp only[List.all_cons,List.all_nil,Bool.and_true,R,hi,if_true,List.map_cons,List.map_nil,ex]
   | g::g2::r,y,Y=>
    have aa:I=false:=by
     cases I with
     | false=>rfl
     | true=>have:=y.one rfl;simp at this
    subst aa;have ab:∀ x∈lh g::lh g2::r.map lh,x.bare:=by
     intro x X;have ac:x∈(g::g2::r).map lh:=by simpa using X
     obtain⟨a,O,rfl⟩:=List.mem_map.1 ac;exact vD (y.each a O)
    have U:=uY (.some (lh g) (lh g2) (r.map lh) ab (by simp at Y |-;omega));have e:vQ ⟨false,g::g2::r⟩=.node mW (lh g::lh g2::r.map lh):=rfl;have V:vc (.node mW (lh g::lh g2::r.map lh))=[.node mW (lh g::lh g2::r.map lh)]:=by
     show(if mW=nx then lh g::lh g2::r.map lh else [.node mW (lh g::lh g2::r.map lh)])=_;rw[if_neg (by decide)]
    have R:ws (.node mW (lh g::lh g2::r.map lh))=(g::g2::r).map lh:=by
     show(if mW=mW then lh g::lh g2::r.map lh else [.node mW (lh g::lh g2::r.map lh)])=_;rw[if_pos rfl];rfl
    have J:((g::g2::r).map lh).all Mo=true:=by
     rw[List.all_eq_true];intro x X;obtain⟨a,_,rfl⟩:=List.mem_map.1 X;rfl
    have M:((g::g2::r).map lh).map EP=g::g2::r:=by
     rw[List.map_map];exact yF fun a O=>vF (y.each a O).op0
    unfold kF;rw[if_neg (by decide),if_pos rfl,e,U];simp only;unfold sk;rw[if_neg (by simp),V];simp only[List.all_cons,List.all_nil,Bool.and_true,R,List.map_cons,List.map_nil] at J M |-;rw[J,if_pos rfl,M]
  refine⟨fun t ht=>?_,?_⟩
  ·obtain⟨d,D,rfl⟩:=List.mem_map.1 ht;rw[key d D]
  ·rw[List.flatMap_map];have:∀ L:List jA,(∀ d∈L,kF 2 bar (jX (vQ d))=([d],0))->L.flatMap (fun d=>(kF 2 bar (jX (vQ d))).1)=L:=by
    intro L
    induction L with
    | nil=>intro _;rfl
    | cons a r ih=>intro hh;rw[List.flatMap_cons,hh a (by simp),ih (fun d D=>hh d (List.mem_cons_of_mem _ D))];rfl
   exact this _ key
 ·rw[if_pos rfl];unfold kE;rw[if_neg (by decide),if_neg (by decide)];cases bar with
  | true=>rw[if_pos (.inl rfl),if_pos rfl];exact⟨by simp,rfl⟩
  | false=>
   rw[if_neg (c:=false=true) (by simp)];by_cases K:out=[]
   ·rw[if_pos (.inr K),K];exact⟨by simp,rfl⟩
   rw[if_neg (by simpa using K)];have one:∀ d∈out,∃ g,d.alts=[g]/\g.told 3:=by
    intro d D;have h1:=(h d D).apk rfl
    match he:d.alts with
    | []=>rw[he] at h1;simp at h1
    | [g]=>exact⟨g,rfl,(h d D).each g (by rw[he];simp)⟩
    | g::g2::r=>rw[he] at h1;simp at h1
   have hw:∀ x∈out.map qk,x.bare:=by
    intro x X;obtain⟨d,D,rfl⟩:=List.mem_map.1 X;obtain⟨g,e,F⟩:=one d D;unfold qk;rw[e];exact EZ d.bar F
   have Z:(out.map qk).length<=64:=by
    rw[List.length_map];have:=qG (fun d D=>(h d D).ne);omega
   have U:=AV hw Z;have ht:kF 3 false (mf (out.map qk))=(out,0):=by
    unfold kF;rw[if_neg (by decide),if_neg (by decide),U];simp only;unfold wt;rw[if_neg]
    ·congr 1;rw[List.map_map]
     conv=>rhs;rw[<-List.map_id out]
     refine List.map_congr_left fun d D=>?_;obtain⟨g,e,F⟩:=one d D;obtain⟨I,N⟩:=d;simp only at e;subst e;show(⟨false||I,[tO ⟨I,bl g.nm,g.op.toNat,bl g.ver⟩]⟩:jA)=⟨I,[g]⟩;rw[Bool.false_or];congr 1;rw[show tO ⟨I,bl g.nm,g.op.toNat,bl g.ver⟩=g from vF F.op0]
    ·rw[Bool.not_eq_true,List.any_eq_false];intro x X;have:=(hw x X).op;simp;omega
   exact⟨fun t H=>by rw[List.mem_singleton.1 H,ht],by simp[ht]⟩
theorem E8 (a b:Int)(bar:Bool)(l:List jA):jY bar (l.map (nf a b))=(jY bar l).map (nf a b):=by
 unfold jY;rw[List.filter_map];rfl
theorem WL {l:List jA}(h:za fmt l=0):
  kZ fmt false (xz fmt false l)=0/\kZ fmt true (xz fmt true l)=0/\mh fmt false (xz fmt false l)++mh fmt true (xz fmt true l)=vd fmt l:=by
 unfold za at h;by_cases F:lE fmt
 rotate_left
 ·rw[if_pos F] at h;cases h
 rw[if_neg (fun R=>R F)] at h;by_cases z:pD l=0
 rotate_left
 ·rw[if_pos z] at h;exact absurd h z
 rw[if_neg (by simpa using z)] at h;unfold pD at z;split at z
 ·cases z
 rename_i aa;have O:∀ d∈l,vP d=0:=jM.1 z;have N:∀ d∈l,sj fmt d=0:=jM.1 h;have X:∀ d∈l.map (nf 1 fmt),d.told fmt:=by
  intro d y;obtain⟨x,I,rfl⟩:=List.mem_map.1 y;exact(vE F (O x I) (N x I)).1
 have V:jt (l.map (nf 1 fmt))<=64:=by rw[sq];omega
 have Y:∀ d∈l.map (nf 1 fmt),∀ b∈d.alts,(jG fmt 1 b).2=0:=by
  intro d y;obtain⟨x,I,rfl⟩:=List.mem_map.1 y;exact(vE F (O x I) (N x I)).2.2
 have J:(l.map (nf 1 fmt)).map (nf fmt 1)=l:=by
  rw[List.map_map]
  conv=>rhs;rw[<-List.map_id l]
  exact List.map_congr_left fun d y=>(vE F (O d y) (N d y)).2.1
 have key:∀ bar,mh fmt bar (xz fmt bar l)=(if fmt=3 then (if bar=true then [] else l) else jY bar l)/\kZ fmt bar (xz fmt bar l)=0:=by
  intro bar;obtain⟨k1,k2⟩:=PG F (bar:=bar) X V;have Z:mh fmt bar (xz fmt bar l)=(if fmt=3 then (if bar=true then [] else l) else jY bar l):=by
   have e:mh fmt bar (xz fmt bar l)=((kE fmt bar (l.map (nf 1 fmt))).flatMap (fun t=>(kF fmt bar t).1)).map (nf fmt 1):=by
    unfold mh EU xz;rw[List.map_flatMap]
   rw[e,k2];split
   ·split
    ·rfl
    ·exact J
   ·rw[E8]
    conv=>rhs;rw[<-J]
    rw[E8,E8]
  refine⟨Z,?_⟩;have K:∀ t∈xz fmt bar l,∀ d∈(kF fmt bar t).1,d∈l.map (nf 1 fmt):=by
   intro t ht d D;have y:d∈(kE fmt bar (l.map (nf 1 fmt))).flatMap (fun t=>(kF fmt bar t).1):=List.mem_flatMap.2 ⟨t,ht,D⟩;rw[k2] at y;split at y
   ·split at y
    ·simp at y
    ·exact y
   ·exact(mi y).1
  have hz:lY (mJ fmt bar) (xz fmt bar l)=0:=by
   rw[jM];intro t ht;unfold mJ;rw[if_neg (by rw[k1 t ht];simp)];unfold sn;rw[jM];intro b hb;obtain⟨d,D,U⟩:=List.mem_flatMap.1 hb;exact Y d (K t ht d D) b U
  have M:¬ 64<jt (mh fmt bar (xz fmt bar l)):=by
   rw[Z];split
   ·split
    ·simp[jt]
    ·omega
   ·have:=qF bar l;omega
  unfold kZ;rw[if_neg (fun R=>R F),if_neg (by rw[hz];simp),if_neg M]
 refine⟨(key false).2,(key true).2,?_⟩;rw[(key false).1,(key true).1];unfold vd;by_cases H:fmt=3
 ·rw[if_pos H,if_pos H,if_pos H];simp
 ·rw[if_neg H,if_neg H,if_neg H]
theorem WN (hb:lE b)(h:pG b s=true):s.size≠0:=by
 unfold pG at h;rw[Bool.and_eq_true,decide_eq_true_eq] at h;rw[h.1];rcases hb with rfl | rfl | rfl<;>decide
def hd1 (l:LU)(c:UInt8):Bool:=Lib.hasPrefix l [c]
theorem sO (ha:lE a)(hb:lE b){v:BA}(h:(trans a b v).2=0):trans b a (ke (trans a b v).1)=(bl v,0):=by
 obtain⟨c,_,J,I,e⟩:=Mp ha hb h;obtain⟨F,z⟩:=Ik J;have y:=sd hb I;have H:=(En hb y).1;rw[lS] at H;have D:=Rm hb H I rfl;rw[e];unfold trans;rw[if_neg (by rintro(x | x);exact x hb;exact x ha),y,if_neg (by simp),lS,D];simp only;unfold zN;rw[if_pos F,z]
theorem Qq (ha:lE a)(hb:lE b)(h:pR a s=true):wu b a (wu a b s)=s:=by
 have F:∀ x:Int,lE x->aw x 0≠aw x 1/\aw x 0≠aw x 2/\aw x 1≠aw x 2:=by
  intro x N;rcases N with rfl | rfl | rfl<;>decide
 obtain⟨I,M,J⟩:=F b hb;have K:=yH ha hb s;have H:=yH hb ha;unfold pR at h;rw[decide_eq_true_eq] at h;rw[K];by_cases z:aw a 0=s
 ·rw[if_pos z,H,if_pos rfl,z]
 rw[if_neg z];by_cases y:aw a 1=s
 ·rw[if_pos y,H,if_neg I,if_pos rfl,y]
 rw[if_neg y];by_cases D:aw a 2=s
 ·rw[if_pos D,H,if_neg M,if_neg J,if_pos rfl,D]
 ·rcases h with h | h | h
  ·exact absurd h z
  ·exact absurd h y
  ·exact absurd h D
theorem Fu (ha:lE a)(hb:lE b){g:jf}(h:qH a b g):sM b a (sM a b g)=g/\qH b a (sM a b g):=by
 obtain⟨D,y,F⟩:=h;have e:=sO ha hb F;have z:(sM a b g).ver=ke (trans a b g.ver).1:=rfl;refine⟨?_,D,rfl,by rw[z,e]⟩;obtain⟨nm,op,ver⟩:=g;simp only at y;subst y;show(⟨nm,3,ke (trans b a (ke (trans a b ver).1)).1⟩:jf)=_;rw[e];show(⟨nm,3,ke (bl ver)⟩:jf)=_;rw[oQ]
structure up (kn:List kV):Prop where
 sums:∀ k∈kn,pG 1 k.s1=true/\pG 3 k.s2=true/\pG 2 k.s3=true
 one:kn.Pairwise fun x y=>x.path≠y.path
theorem up.sg {kn:List kV}(h:up kn){k:kV}(hk:k∈kn)(ha:lE a):pG a (k.sum (mv a))=true:=by
 obtain⟨z,y,D⟩:=h.sums k hk;rcases ha with rfl | rfl | rfl
 ·exact z
 ·exact D
 ·exact y
theorem XN {l:List kV}(h:l.Pairwise fun x y=>x.path≠y.path):∀ {x y:kV},x∈l->y∈l->x.path=y.path->x=y:=by
 induction l with
 | nil=>intro x y F;simp at F
 | cons z r ih=>
  intro x y F D H;rw[List.pairwise_cons] at h;rcases List.mem_cons.1 F with F | F
  ·rcases List.mem_cons.1 D with D | D
   ·rw[F,D]
   ·rw[F] at H;exact absurd H (h.1 y D)
  ·rcases List.mem_cons.1 D with D | D
   ·rw[D] at H;exact absurd H.symm (h.1 x F)
   ·exact ih h.2 F D H
theorem Nf (ha:lE a){kn:List kV}(hk:up kn){f:jg}(h:f.kind=1->(lD a b kn f).size≠0):lD b a kn (li a b kn f)=f.sum:=by
 have U:(li a b kn f).kind=f.kind:=rfl;have V:(li a b kn f).path=f.path:=rfl;have F:(li a b kn f).sum=lD a b kn f:=rfl;by_cases z:f.kind≠1\/a=b
 ·unfold lD at F |-;rw[if_pos z] at F;rw[U,if_pos (z.imp id Eq.symm),F]
 ·have R:f.kind=1:=Classical.byContradiction fun J=>z (.inl J);have K:a≠b:=fun J=>z (.inr J);have O:=h R;have D:lD a b kn f=((lM a b kn f.path f.sum).map fun k=>k.sum (mv b)).getD ⟨#[]⟩:=by
   unfold lD;rw[if_neg z];cases lM a b kn f.path f.sum<;>rfl
  cases e:lM a b kn f.path f.sum with
  | none=>rw[D,e] at O;exact absurd rfl O
  | some k=>
   obtain⟨M,Y,N,y⟩:=qL e;rw[e] at D;simp only[Option.map_some,Option.getD_some] at D;have X:lD b a kn (li a b kn f)=((lM b a kn f.path (k.sum (mv b))).map fun k=>k.sum (mv a)).getD ⟨#[]⟩:=by
    conv=>lhs;unfold lD
    rw[U,V,F,D,if_neg (by rintro(x | x);exact x R;exact K x.symm)];cases lM b a kn f.path (k.sum (mv b))<;>rfl
   rw[X];cases e':lM b a kn f.path (k.sum (mv b)) with
   | none=>
    exfalso;unfold lM at e';have:=List.find?_eq_none.1 e' k M;rw[hk.sg M ha,N] at this;simp at this
   | some k'=>
    obtain⟨I,_,H,_⟩:=qL e';have:k'=k:=XN hk.one I M (by rw[H,N]);rw[this];exact y
theorem xt {fmt:Int}:∀ (l pre:List jg),lj fmt pre l=none->∀ f∈l,kQ fmt f=true
 | [],_,_,f,z=>by simp at z
 | g::r,pre,h,f,z=>by
  unfold lj at h;split at h
  ·rename_i y;rcases List.mem_cons.1 z with rfl | z
   ·unfold rb at y;split at y
    ·cases y
    ·split at y
     ·cases y
     ·split at y
      ·cases y
      ·split at y
       ·cases y
       ·rename_i D;simpa using D
   ·exact xt r _ h f z
  ·cases h
theorem Fv (ha:lE a){kn:List kV}(hk:up kn){f:jg}(hr:kQ a f=true)(h:oZ a b kn f):li b a kn (li a b kn f)=f/\oZ b a kn (li a b kn f):=by
 obtain⟨m,F,H,l,s⟩:=xk.1 hr;have e:=Nf (b:=b) ha hk h.2.2.2;refine⟨?_,F,H,?_,?_⟩
 ·unfold li at e |-;simp only at e |-;rw[e]
 ·rintro⟨hc,h3⟩;have y:f.conf=true:=hc;by_cases z:f.kind=1
  ·rw[if_pos z,y,h3] at s;simp at s
  ·rw[if_neg z,y] at s;simp at s
 ·intro z;have D:f.kind=1:=z;rw[e];rw[if_pos D,Bool.and_eq_true] at s;exact WN ha s.1
theorem Ng (bar:Bool)(x y:List jA):jY bar (x++y)=jY bar x++jY bar y:=by unfold jY;rw[List.filter_append]
theorem IP (c d:Bool)(l:List jA):jY c (jY d l)=if c=d then jY c l else []:=by
 unfold jY;rw[List.filter_filter];by_cases h:c=d
 ·subst h;rw[if_pos rfl];congr 1;funext x;simp
 ·rw[if_neg h,List.filter_eq_nil_iff];intro x _;cases c<;>cases d<;>simp_all
theorem IQ (bar:Bool)(fmt:Int)(l:List jA):jY bar (vd fmt l)=jY bar l:=by
 unfold vd;split
 ·rfl
 ·rw[Ng,IP,IP];cases bar<;>simp
theorem Nh {l:List jA}{d:jA}(h:d∈vd fmt l):d∈l:=by
 unfold vd at h;split at h
 ·exact h
 ·rcases List.mem_append.1 h with h | h
  ·exact(mi h).1
  ·exact(mi h).1
theorem Cp (x y:List jA):jt (x++y)=jt x+jt y:=by unfold jt;rw[List.map_append,List.sum_append]
theorem Fw:∀ l:List jA,jt (jY false l)+jt (jY true l)=jt l
 | []=>rfl
 | d::r=>by
  have z:=Fw r;have e:∀ c,jY c (d::r)=jY c [d]++jY c r:=fun c=>Ng c [d] r;have y:jt (d::r)=jt [d]+jt r:=Cp [d] r;rw[e,e,Cp,Cp,y];have D:jt (jY false [d])+jt (jY true [d])=jt [d]:=by
   unfold jY;cases d.bar.eq_false_or_eq_true with
   | inl h=>simp[List.filter_cons,h,jt]
   | inr h=>simp[List.filter_cons,h,jt]
  omega
theorem Qr (fmt:Int)(l:List jA):jt (vd fmt l)=jt l:=by
 unfold vd;split
 ·rfl
 ·rw[Cp,Fw]
theorem Qs (ha:lE a){g:jf}(h:(jG a 1 g).2=0):(jG 1 a (jG a 1 g).1).2=0:=by
 unfold jG at h;split at h
 ·cases h
 ·rename_i y;split at h
  ·rename_i z;have e:(jG a 1 g).1=⟨g.nm,0,⟨#[]⟩⟩:=by unfold jG;rw[if_neg y,if_pos z]
   rw[e];unfold jG;rw[if_neg y,if_pos rfl]
  ·rename_i z;split at h
   ·cases h
   ·rename_i ht;have e:(jG a 1 g).1=⟨g.nm,g.op,ke (trans a 1 g.ver).1⟩:=by unfold jG;rw[if_neg y,if_neg z,if_neg ht];rfl
    rw[e];unfold jG;simp only;rw[if_neg y,if_neg z,sO ha (.inl rfl) (by simpa using ht),if_neg (by simp)]
theorem XQ {s:LU}(h:(kF 3 bar s).2=0):∀ d∈(kF 3 bar s).1,d.alts.length=1:=by
 unfold kF at h |-;rw[if_neg (by decide),if_neg (by decide)] at h |-;cases mq s with
 | none=>intro d y;simp at y
 | some L=>
  intro d y;simp only at y;unfold wt at y;split at y
  ·simp at y
  ·simp only[List.mem_map] at y;obtain⟨x,_,rfl⟩:=y;rfl
theorem Fx (ha:lE a){ts:List (LU)}(h:kZ a bar ts=0):∀ d∈mh a bar ts,sj a d=0:=by
 unfold kZ at h;rw[if_neg (fun D=>D ha)] at h;split at h
 ·rename_i D;exact absurd h D
 rename_i M;have K:∀ t∈ts,mJ a bar t=0:=jM.1 (by simpa using M);intro d F;unfold mh EU at F;obtain⟨t,ht,F⟩:=List.mem_flatMap.1 F;obtain⟨x,I,rfl⟩:=List.mem_map.1 F;have z:=K t ht;unfold mJ at z;split at z
 ·rename_i D;exact absurd z D
 rename_i H;have H:(kF a bar t).2=0:=by simpa using H
 unfold sn at z;rw[jM] at z;unfold sj;rw[if_neg]
 ·rw[jM];intro g N;obtain⟨y,J,rfl⟩:=List.mem_map.1 N;exact Qs ha (z y (List.mem_flatMap.2 ⟨x,I,J⟩))
 ·rintro⟨rfl,hl⟩;have:=XQ H x I;unfold nf at hl;rw[List.length_map] at hl;omega
theorem xu (ha:lE a){kn:List kV}{p q:jn}(ht:vg a b p)(hc:xj a b kn p q):lB b q=vd b (lB a p)/\vg b a q:=by
 obtain⟨M,H,K⟩:=WL ht.toZ;have e:lB b q=vd b (lB a p):=by unfold lB;rw[hc.needs,hc.bars];exact K
 refine⟨e,by rw[hc.needs];exact M,by rw[hc.bars];exact H,?_⟩;obtain⟨_,z,J,_,_⟩:=RF ht.toZ;have I:∀ d∈lB a p,sj a d=0:=by
  intro d y;unfold lB at y;rcases List.mem_append.1 y with y | y
  ·exact Fx ha ht.needs d y
  ·exact Fx ha ht.bars d y
 have D:pD (vd b (lB a p))=0:=by
  unfold pD at z |-;rw[Qr];split at z
  ·cases z
  ·rename_i F;rw[if_neg F,jM];intro d y;exact(J d (Nh y)).1
 rw[e];unfold za;rw[if_neg (fun N=>N ha),if_neg (by rw[D];simp),jM];intro d y;exact I d (Nh y)
theorem UV (hb:lE b){kn:List kV}(hk:up kn){p q:jn}(h:Ad a p)(ht:oG a b kn p)(hc:xj a b kn p q):oG b a kn q:=by
 have z:=h.isf;have J:=(vh h.files).2;refine⟨by rw[hc.ver,sO z hb ht.ver],(xu z ht.deps hc).2,?_,?_,?_⟩
 ·intro g I;rw[hc.gives] at I;obtain⟨x,D,rfl⟩:=List.mem_map.1 I;exact(Fu z hb (ht.gives x D)).2
 ·intro f H;rw[hc.files] at H;obtain⟨x,D,rfl⟩:=List.mem_map.1 H;exact(Fv z hk (xt _ _ J x D) (ht.files x D)).2
 ·intro s F;rw[hc.scripts] at F;have y:=h.scripts;unfold lH at y;split at y
  ·cases y
  ·split at y
   ·cases y
   ·split at y
    ·rename_i K;have:=List.all_eq_true.1 K s F;unfold U7 at this;rw[Bool.and_eq_true,Bool.and_eq_true] at this;exact this.1.1
    ·cases y
structure XR (a:Int) (p r:jn):Prop where
 nm:r.nm=p.nm
 ver:r.ver=p.ver
 ar:r.ar=p.ar
 sm:r.sm=p.sm
 gives:r.gives=p.gives
 files:r.files=p.files
 scripts:r.scripts=p.scripts
 needs:kZ a false (r.needs.map bl)=0
 bars:kZ a true (r.bars.map bl)=0
 deps:∀ c,jY c (lB a r)=jY c (lB a p)
theorem Qt (hb:lE b){kn:List kV}(hk:up kn){p q r:jn}(h:Ad a p)(ht:oG a b kn p)(hc:xj a b kn p q)(hd:xj b a kn q r):XR a p r:=by
 have y:=h.isf;have H:=(vh h.files).2;obtain⟨K,F⟩:=xu y ht.deps hc;obtain⟨I,z⟩:=xu hb F hd;refine⟨hd.nm.trans hc.nm,?_,?_,hd.sm.trans hc.sm,?_,?_,hd.scripts.trans hc.scripts,z.needs,z.bars,fun c=>by rw[I,K,IQ,IQ]⟩
 ·rw[hd.ver,hc.ver,sO y hb ht.ver];exact oQ p.ver
 ·rw[hd.ar,hc.ar,Qq y hb h.arch]
 ·rw[hd.gives,hc.gives,List.map_map];exact yF fun g J=>(Fu y hb (ht.gives g J)).1
 ·rw[hd.files,hc.files,List.map_map]
  conv=>rhs;rw[<-List.map_id p.files]
  exact List.map_congr_left fun f D=>(Fv y hk (xt _ _ H f D) (ht.files f D)).1
structure vI (l:List kV):Prop where
 sums:∀ k∈l,pG 1 k.s1=true/\pG 3 k.s2=true/\pG 2 k.s3=true
 one:l.Pairwise fun x y=>x.path≠y.path
theorem vI.snoc {l:List kV}{x:kV}(h:vI (l.take k))(hx:l[k]?=some x)(h1:pG 1 x.s1=true)(h2:pG 3 x.s2=true)(h3:pG 2 x.s3=true)(hp:∀ y∈l.take k,y.path≠x.path):vI (l.take (k+1)):=by
 rw[jI hx];refine⟨fun y D=>?_,List.pairwise_append.2 ⟨h.one,List.pairwise_singleton ..,fun y D z F=>by rw[List.mem_singleton.1 F];exact hp y D⟩⟩;rcases List.mem_append.1 D with D | D
 ·exact h.sums y D
 ·rw[List.mem_singleton.1 D];exact⟨h1,h2,h3⟩
theorem RK {A:Option Addr}{l:List kV}(hr:Rd w 5 A l.length (l.flatMap kV.cells)){i:Nat}{x:kV}(hx:l[i]?=some x){b off:Nat}(hA:A=some ⟨b,off,none⟩):w.cell? ⟨b,off+i*5,none⟩=some (.string x.path):=by
 obtain⟨F,z,y,D⟩:=hr.elem wJ i x hx;rw[hA] at y;injection y with y;injection y with e1 e2 _;subst e1;subst e2;have:=D 0 _ rfl;simpa using this
theorem UW (A:Option Addr)(c:Nat)(l:List kV)(w:World)(hr:Rd w 5 A l.length (l.flatMap kV.cells))(ho:∀ k∈l,k.small)(hl:l.length<=100):Calls Tryz.prog 8 #[.slice A l.length c] w (Ni (up l) w):=by
 have U:=iV hr;have HO:=iV ho;clear hr ho;go_in;go_wp2;go_loopw [3] (fun i wr=>∃ k:Nat,k<=l.length/\i=.int .i64 k/\Hid (vI (l.take k))/\Hid (Below w.heap.size w wr)) (fun i _=>l.length-(intOf i).toNat)
 case atStart=>exact⟨0,z0,rfl,⟨by simp,by simp⟩,bR⟩
 case round=>
  obtain⟨k,hk,rfl,HS,B0⟩:=hrel;by_cases I:k<l.length
  ·obtain⟨x,M⟩:∃ x,l[k]?=some x:=⟨_,gG I⟩
   obtain⟨b,off,X,he⟩:=U.out.elem wJ k x M;have HE:Hid (∀ W,Below w.heap.size w W->W.cell? ⟨b,off+k*5+2,none⟩=some (.string x.s1)/\W.cell? ⟨b,off+k*5+3,none⟩=some (.string x.s2)/\W.cell? ⟨b,off+k*5+4,none⟩=some (.string x.s3)):=by
    intro W hb;obtain⟨b2,ab,z,D⟩:=(U.out.below hb).elem wJ k x M;rw[X] at z;injection z with z;injection z with R e2 _;subst R;subst e2;exact⟨D 2 _ rfl,D 3 _ rfl,D 4 _ rfl⟩
   have ae:=fun W=>jm (T:=23) (E:=64) (sz:=5) (c:=c) Tryz.underlying23 rfl Tryz.sizeOf64 X I W;obtain⟨z0,z1,z2,z3,z4⟩:=HO.out x (gM M);have HX:=iV M;have HA:=iV X;clear M X he;obtain⟨q1,h1⟩:∃ q,pG 1 x.s1=q:=⟨_,rfl⟩
   obtain⟨q2,Z⟩:∃ q,pG 3 x.s2=q:=⟨_,rfl⟩
   obtain⟨q3,h3⟩:∃ q,pG 2 x.s3=q:=⟨_,rfl⟩
   have P1:=iV fun W=>JH 1 (.inl rfl) x.s1 W (by omega);have P2:=iV fun W=>JH 3 (.inr (.inr rfl)) x.s2 W (by omega);have P3:=iV fun W=>JH 2 (.inr (.inl rfl)) x.s3 W (by omega);rw[h1] at P1;rw[Z] at P2;rw[h3] at P3;have H1:=iV h1;have H2:=iV Z;have H3:=iV h3;clear h1 Z h3;obtain⟨R,_,_⟩:=HE.out wr B0.out;go_wp2_with fail;refine(P1.out _).mono ?_;rintro e w1 ⟨rfl,O⟩;have B1:=iV (jc B0.out O);clear O R;cases q1
   ·go_wp2;go_ret;exact oH B1.out
   obtain⟨_,e2,_⟩:=HE.out w1 B1.out;go_wp2_with fail;refine(P2.out _).mono ?_;rintro e w2 ⟨rfl,K⟩;have B2:=iV (jc B1.out K);clear K e2;cases q2
   ·go_wp2;go_ret;exact oH B2.out
   obtain⟨_,_,e3⟩:=HE.out w2 B2.out;go_wp2_with fail;refine(P3.out _).mono ?_;rintro e w3 ⟨rfl,J⟩;have B3:=iV (jc B2.out J);clear J e3;cases q3
   ·go_wp2;go_ret;exact oH B3.out
   go_wp2;go_loopw [4] (fun i wi=>∃ m:Nat,m<=k/\i=.int .i64 m/\Hid (∀ y∈l.take m,y.path≠x.path)/\Hid (Below w.heap.size w wi)) (fun i _=>k-(intOf i).toNat)
   case atStart=>exact⟨0,Nat.zero_le _,rfl,by simp[Hid],B3⟩
   case round=>
    obtain⟨m,hm,rfl,V,F⟩:=hrel;by_cases ad:m<k
    ·obtain⟨y,hy⟩:∃ y,l[m]?=some y:=⟨_,gG (by omega)⟩
     have f0:=RK (U.out.below F.out) HX.out HA.out;have f1:=RK (U.out.below F.out) hy HA.out;have ac:=fun W=>jm (T:=23) (E:=64) (sz:=5) (c:=c) Tryz.underlying23 rfl Tryz.sizeOf64 HA.out (show m<l.length by omega) W;have HY:=iV hy;clear hy;obtain⟨r,N⟩:∃ r,(y.path.toList==x.path.toList)=r:=⟨_,rfl⟩
     have Y:Hid (r=false->y.path≠x.path):=by
      intro e0 R;rw[e0,R] at N;simp at N
     obtain⟨W4,H⟩:∃ W4,wr=W4:=⟨_,rfl⟩
     rw[H] at F f0 f1 |-;clear H;go_upto_region 9 with(fail)
     go_quiet (fail);cases r
     ·go_wp2;go_roundw
      case rel=>exact⟨m+1,by omega,by go_num,iV (RJ V.out HY.out (Y.out rfl)),iV (jj F.out _)⟩
      case measure=>simp[intOf];omega
     ·go_wp2;go_ret;exact oH (jj F.out _)
    ·have aa:Hid (vI (l.take (k+1))):=vI.snoc HS.out HX.out H1.out H2.out H3.out (by have:=V.out;rwa [show m=k by omega] at this);go_wp2;go_roundw
     case rel=>exact⟨k+1,by omega,by go_num,aa,F⟩
     case measure=>simp[intOf];omega
  ·have V:Hid (up l):=by have:=HS.out;rw[tL (by omega)] at this;exact⟨this.sums,this.one⟩
   go_wp2;go_ret;exact IR V.out B0.out
theorem Nl (hf:lE fmt){out:List jA}(h:∀ d∈out,d.told fmt)(hc:jt out<=64)(bar:Bool):(kE fmt bar out).length<=64/\∀ t∈kE fmt bar out,t.length<=1000000:=by
 have K:out.length<=64:=Nat.le_trans (qG fun d H=>(h d H).ne) hc;have X:(jY bar out).length<=64:=Nat.le_trans (List.length_filter_le _ _) K;have I:∀ d∈out,d.alts.length<=64:=fun d H=>Nat.le_trans (vf H) hc;unfold kE;rcases hf with rfl | rfl | rfl
 ·rw[if_pos rfl];split
  ·simp
  ·refine⟨by simp,fun t ht=>?_⟩;rw[List.mem_singleton.1 ht];unfold lO;have R:∀ x∈((jY bar out).map fun d=>d.alts.map tN).map (fun g=>Lib.join (g.map kP.text) [32,124,32]),x.length<=13000:=by
    intro x Z;obtain⟨g,R,rfl⟩:=List.mem_map.1 Z;obtain⟨d,H,rfl⟩:=List.mem_map.1 R;have J:=(mi H).1;have V:=pZ [32,124,32] 200 ((d.alts.map tN).map kP.text) (fun y O=>by
     obtain⟨z,U,rfl⟩:=List.mem_map.1 O;obtain⟨a,Y,rfl⟩:=List.mem_map.1 U;exact IV ((h d J).each a Y))
    have M:=I d J;refine Nat.le_trans V ?_;simp only[List.length_map,List.length_cons,List.length_nil];omega
   have N:=pZ [44,32] 13000 _ R;refine Nat.le_trans N ?_;simp only[List.length_map,List.length_cons,List.length_nil];omega
 ·rw[if_neg (by decide),if_pos rfl];refine⟨by rw[List.length_map];exact X,fun t ht=>?_⟩;obtain⟨d,H,rfl⟩:=List.mem_map.1 ht;have J:=(mi H).1;have D:=h d J;have M:=I d J;obtain⟨b,F⟩:=d
  match F,D,M with
  | [],D,_=>exact absurd rfl D.ne
  | [g],D,_=>exact Nat.le_trans (Ap (D.each g (by simp))) (by omega)
  | g::g2::r,D,M=>
   have N:=xw (g::g2::r) 0 D.each;show(jX (.node mW ((g::g2::r).map lh))).length<=_;simp only[jX,List.length_append,List.length_cons,List.length_nil] at N M |-;omega
 ·rw[if_neg (by decide),if_neg (by decide)];split
  ·simp
  ·refine⟨by simp,fun t ht=>?_⟩;rw[List.mem_singleton.1 ht];unfold mf;have V:=pZ [32] 200 ((out.map qk).map mo.text) (fun y O=>by
    obtain⟨z,U,rfl⟩:=List.mem_map.1 O;obtain⟨d,H,rfl⟩:=List.mem_map.1 U;have D:=h d H;obtain⟨b,F⟩:=d
    match F,D with
    | [],D=>exact absurd rfl D.ne
    | g::r,D=>exact IW b (D.each g (by simp)))
   refine Nat.le_trans V ?_;simp only[List.length_map,List.length_cons,List.length_nil];omega
theorem Nm {l:List jA}(h:za fmt l=0)(bar:Bool):(xz fmt bar l).length<=64/\∀ t∈xz fmt bar l,t.length<=1000000:=by
 obtain⟨z,y,D⟩:=Nk h;exact Nl z y D bar
theorem GQ (x:jf)(w:World):(binOp .neq 78 (.agg #[.string x.nm,.int .i64 x.op,.string x.ver]) (.agg #[.string x.nm,.int .i64 x.op,.string x.ver])).run Tryz.prog w=.ok (.bool false) w:=by
 go_simp
theorem GR (A B:Option Addr)(c d:Nat)(l:List jf)(w:World)(h1:Rd w 3 A l.length (l.flatMap jf.cells))(h2:Rd w 3 B l.length (l.flatMap jf.cells))(hl:l.length<=1000000):Calls Tryz.prog 28 #[.slice A l.length c,.slice B l.length d] w fun e w'=>e=.returned (.bool true)/\Below w.heap.size w w':=by
 have O:=iV h1;have K:=iV h2;clear h1 h2;have q:((l.length:Int) != (l.length:Int))=false:=by simp
 go_in;go_wp2;go_loopw [5] (fun i wr=>∃ k:Nat,k<=l.length/\i=.int .i64 k/\Hid (Below w.heap.size w wr)) (fun i _=>l.length-(intOf i).toNat)
 case atStart=>exact⟨0,z0,rfl,bR⟩
 case round=>
  obtain⟨k,X,rfl,I⟩:=hrel;by_cases D:k<l.length
  ·obtain⟨x,J⟩:∃ x,l[k]?=some x:=⟨_,gG D⟩
   obtain⟨Z,Y,F,z⟩:=(O.out.below I.out).elem md k x J;obtain⟨b2,o2,H,y⟩:=(K.out.below I.out).elem md k x J;have N:=z 0 _ rfl;have e1:=z 1 _ rfl;have e2:=z 2 _ rfl;have M:=y 0 _ rfl;have V:=y 1 _ rfl;have f2:=y 2 _ rfl;simp only[Nat.add_zero] at N M;have U:=fun W=>jm (T:=34) (E:=78) (sz:=3) (c:=c) Tryz.underlying34 rfl Tryz.sizeOf78 F D W;have R:=fun W=>jm (T:=34) (E:=78) (sz:=3) (c:=d) Tryz.underlying34 rfl Tryz.sizeOf78 H D W;have nq:=fun W=>GQ x W;clear J F H z y;go_wp2;go_quiet (fail);go_wp2;go_roundw
   case rel=>exact⟨k+1,by omega,by go_num,jj I.out _⟩
   case measure=>simp[intOf];omega
  ·go_wp2;go_ret;exact⟨rfl,I.out⟩
end
section
open Go.RowKit Go.Deep
theorem ZS {B:Nat}(h:Below B w W):Below B w W.drew:=⟨h.os,h.tape,h.output,h.size,h.block⟩
theorem XX {α β:Type}{f:α->β}{l m:List α}(h:l.map f=m.map f){x:α}(hx:l[k]?=some x):∃ y,m[k]?=some y/\f y=f x:=by
 have:(m.map f)[k]?=some (f x):=by rw[<-h,List.getElem?_map,hx];rfl
 rw[List.getElem?_map,Option.map_eq_some_iff] at this;exact this
theorem ZD {α β:Type}{f:α->β}{l m:List α}(h:l.map f=m.map f):l.length=m.length:=by have:=congrArg List.length h;simpa using this
theorem Kc (A B:Option Addr)(c d:Nat)(l m:List jd)(w:World)(h1:qm w A l)(h2:qm w B m)(he:l.map jd.pl=m.map jd.pl)(hl:l.length<=1000000)(hg:∀ x∈l,x.alts.length<=1000000):Calls Tryz.prog 11 #[.slice A l.length c,.slice B m.length d] w fun e w'=>e=.returned (.bool true)/\Below w.heap.size w w':=by
 have H1:=iV h1;have H2:=iV h2;have HE:=iV he;have HG:=iV hg;have HL:=ZD he;rw[<-HL];have R:=iV HL;clear h1 h2 he hg HL;have q:((l.length:Int) != (l.length:Int))=false:=by simp
 go_in;go_wp2;go_loopw [5] (fun i wr=>∃ k:Nat,k<=l.length/\i=.int .i64 k/\Hid (Below w.heap.size w wr)) (fun i _=>l.length-(intOf i).toNat)
 case atStart=>exact⟨0,z0,rfl,bR⟩
 case round=>
  obtain⟨k,hk,rfl,O⟩:=hrel;by_cases J:k<l.length
  ·obtain⟨x,X⟩:∃ x,l[k]?=some x:=⟨_,gG J⟩
   obtain⟨y,hy,hp⟩:=XX HE.out X;have H:k<m.length:=by rw[<-R.out];exact J
   obtain⟨b1,o1,Y,N⟩:=(H1.out.row.below O.out).elem pq k x X;obtain⟨b2,o2,aa,I⟩:=(H2.out.row.below O.out).elem pq k y hy;have R1:=(H1.out.all x (gM X)).below O.out;have R2:=(H2.out.all y (gM hy)).below O.out;have M:=HG.out x (gM X);obtain⟨ae,ga,gc,ad⟩:=x;obtain⟨D,V,Z,z⟩:=y;injection hp with p1 p2;simp only at R1 R2 M p1 p2;subst p1 p2;have e0:=N 0 _ rfl;have e1:=N 1 _ rfl;have f0:=I 0 _ rfl;have f1:=I 1 _ rfl;simp only[Nat.add_zero] at e0 f0 e1 f1;have af:=fun W=>jm (T:=30) (E:=75) (sz:=2) (c:=c) Tryz.underlying30 rfl Tryz.sizeOf75 Y J W;have ac:=fun W=>jm (T:=30) (E:=75) (sz:=2) (c:=d) Tryz.underlying30 rfl Tryz.sizeOf75 aa H W;rw[<-R.out] at ac;have SA:=iV fun W hb=>GR ga V gc Z z W (R1.below (w':=W) hb) (R2.below hb) M;have ab:b1<wr.heap.size:=World.block_lt_of_cell? _ _ e0;have U:b2<wr.heap.size:=World.block_lt_of_cell? _ _ f0;have qb:(D != D)=false:=by simp
   clear X hy Y aa N I R1 R2 M H;generalize z.length=gl at *;go_upto_region 6 with(fail)
   go_cut [41] (fun s wx=>s=.bool false/\Hid (Below wr.heap.size wr wx))
   case first=>
    go_region_held3 (fun w'=>w'.cell? ⟨b1,o1+k*2,none⟩=some (.bool D)/\w'.cell? ⟨b1,o1+k*2+1,none⟩=some (.slice ga gl gc)/\w'.cell? ⟨b2,o2+k*2,none⟩=some (.bool D)/\w'.cell? ⟨b2,o2+k*2+1,none⟩=some (.slice V gl Z))
     (first
       | go_keep
       | exact⟨(F.cell (p:=⟨_,_,none⟩) ab).trans e0,(F.cell (p:=⟨_,_,none⟩) ab).trans e1,(F.cell (p:=⟨_,_,none⟩) U).trans f0,(F.cell (p:=⟨_,_,none⟩) U).trans f1⟩)
     (first
       | (go_at_call 28;refine(SA.out _ (ZS bR)).mono ?_;rintro e w4 ⟨rfl,F⟩))
    all_goals
     have K:Hid (Below wr.heap.size wr w4):=jc (ZS bR) F;go_wp2;go_meet;exact⟨rfl,K⟩
   case rest=>
    obtain⟨rfl,K⟩:=hcut;go_wp2;go_roundw
    case rel=>exact⟨k+1,by omega,by go_num,jc O.out K.out⟩
    case measure=>simp[intOf];omega
  ·go_wp2;go_ret;exact⟨rfl,O.out⟩
end
end Go.Proofs.YtkmjcombhjombaaGreatDoor
