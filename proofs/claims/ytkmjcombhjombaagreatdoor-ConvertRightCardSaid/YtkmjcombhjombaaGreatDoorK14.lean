/- A part of the proof. -/
import Derived.Test.YtkmjcombhjombaaGreatDoorK12
import Derived.Test.YtkmjcombhjombaaGreatDoorK13
set_option maxRecDepth 100000
set_option maxHeartbeats 20000000
set_option linter.unusedVariables false
set_option linter.unusedSimpArgs false
namespace Go.Proofs.YtkmjcombhjombaaGreatDoor
variable{s x:BA}{b:Bool}{c c' fmt:Int}{l r v:LU}{xs:List BA}{a c1 cc k m n op p p':Nat}{o:Obj}{A A1:Option Addr}{w w' w2 wr:World}
section
open Go.RowKit Go.Deep
structure wQ (w wr:World) (xs:List BA) (A:Option Addr) (n c:Nat):Prop where
 len:xs.length=n
 row:wr.ownsRow w.heap.size 9 1 (.slice A n c) n (strCells xs)
 bel:Below w.heap.size w wr
theorem wQ.below {c:Nat}(h:wQ w wr xs A n c)(hb:Below wr.heap.size wr w'):wQ w w' xs A n c:=
 ⟨h.len,jp h.row hb,jc h.bel hb⟩
theorem wQ.nil (w:World):wQ w w [] none 0 0:=⟨rfl,World.ownsRow_nil _ _ _ _,bR⟩
theorem wQ.grow {c:Nat}(h:wQ w wr xs A n c)
  (hr:w2.ownsRow w.heap.size 9 1 (.slice A1 (n+1) c1) (n+1) (strCells xs++[.string x]))
  (hg:(wr.alloc o).grownBy w2 (Value.slice A n c).ownBlock):wQ w w2 (xs++[x]) A1 (n+1) c1:=by
 refine⟨by simp[h.len],by rw[show strCells (xs++[x])=strCells xs++[.string x] by simp[strCells]];exact hr,?_⟩;exact(h.bel.alloc h.bel.size o).grown hg (by have:=h.bel.size;simp;omega) (fun j y=>by have:=(h.row.lt j y).1;omega)
theorem oe (w:World)(t:TypeId)(a:Value):oP (w.alloc (.cells #[a] t)) (w.heap.size+1) 1 (some ⟨w.heap.size,0,none⟩) 1 [a]:=by
 refine⟨rfl,fun _=>⟨_,rfl,by simp,fun j u y=>?_⟩⟩
 match j,y with
 | 0,y=>simp at y;subst y;simp[Addr.add]
 | j+1,y=>simp at y
theorem uI {base:Nat}{e:TypeId}{size c:Nat}{xs:List Value}(h:w.ownsRow base e size (.slice A n c) n xs):n<=c:=by
 rcases h.2 with⟨H,F⟩ | ⟨g,cap,z,y,_,_,D,_⟩
 ·omega
 ·injection y with _ _ h3;omega
theorem pZ (sep:LU)(b:Nat):∀ (l:List (LU)),(∀ x∈l,x.length<=b)->(Lib.join l sep).length<=l.length*(b+sep.length)
 | [],_=>by simp[Lib.join,List.intercalate]
 | [a],h=>by have:=h a (by simp);simp[Lib.join,List.intercalate];omega
 | a::c::r,h=>by
  have z:=h a (by simp);have D:=pZ sep b (c::r) (fun x y=>h x (by simp at y |-;exact .inr y));have e:Lib.join (a::c::r) sep=a++sep++Lib.join (c::r) sep:=by simp[Lib.join,List.intercalate,List.intersperse]
  rw[e,List.length_append,List.length_append,List.length_cons,Nat.succ_mul];omega
theorem mo.text_eq (x:mo)(hx:x.right):bl (if x.no then (⟨#[33]⟩:BA)++(ke x.name++xG x.op++ke x.ver) else ke x.name++xG x.op++ke x.ver)=x.text:=by
 have y:x.op<7:=by have:=hx.2.1;omega
 unfold mo.text;cases x.no with
 | true=>simp[kK,lS,C9 x.op y];rfl
 | false=>simp[kK,lS,C9 x.op y]
theorem Jz (k:Nat):(pM k).length<=2:=by unfold pM;split<;>simp
theorem mo.text_len (x:mo)(hx:x.right):x.text.length<=131:=by
 obtain⟨y,z⟩:=hx.sizes;have:=Jz x.op;unfold mo.text;cases x.no<;>simp<;>omega
theorem wR (A:Option Addr)(c:Nat)(L:List mo)(hL:∀ x∈L,x.right)(h64:L.length<=64)(w:World)(hG:Gl w)(hr:Rd w 4 A L.length (L.flatMap mo.cells)):Calls Tryz.prog 140 #[.slice A L.length c] w fun e w'=>e=.returned (.tuple #[.string (ke (mf L)),.int .i64 0])/\Below w.heap.size w w':=by
 obtain⟨i0,R,ae,aa,Z⟩:=info_parts sY;have HG:=iV hG;have HR:=iV hr;have HL:=iV hL;clear hG hr hL;go_in;go_wp2_with fail;refine(Oq A c L HL.out h64 w HG.out HR.out).mono ?_;rintro e w0 ⟨rfl,ab⟩;have M:=iV ab;clear ab;go_wp2;go_loopw [5,16] (fun l i wr=>∃ (k:Nat) (D:List BA) (B:Option Addr) (J:Nat),k<=L.length/\l=.slice B k J/\i=.int .i64 k/\Hid (wQ w0 wr D B k J)/\Hid (D.map bl=(L.take k).map mo.text)) (fun _ i _=>L.length-(intOf i).toNat)
 case atStart=>exact⟨0,[],none,0,z0,rfl,rfl,wQ.nil w0,rfl⟩
 case round=>
  obtain⟨k,D,B,J,hk,rfl,rfl,K,HT⟩:=hrel;by_cases ac:k<L.length
  ·obtain⟨x,hx⟩:∃ x,L[k]?=some x:=⟨_,gG ac⟩
   obtain⟨b,off,hA,V⟩:=(HR.out.below (jc M.out K.out.bel)).elem Jn k x hx;have e0:=V 0 _ rfl;have e1:=V 1 _ rfl;have e2:=V 2 _ rfl;have e3:=V 3 _ rfl;simp only[Nat.add_zero] at e0;have ai:=fun W=>jm (T:=87) (E:=142) (sz:=4) (c:=c) Tryz.underlying87 rfl Tryz.sizeOf142 hA ac W;have HX:=iV (HL.out x (gM hx));have h7:x.op<7:=by have:=HX.out.2.1;omega
   have TK:Hid ((L.take (k+1)).map mo.text=(L.take k).map mo.text++[x.text]):=by
    show _=_;obtain⟨ah,ag⟩:=gS hx;rw[tS ah,ag];simp
   clear hx V hA;have K0:Hid (jh (wr.alloc (.cells #[.bool x.no,.string (ke x.name),.int .i64 x.op,.string (ke x.ver)] 142)) wr.heap.size x.cells):=jh.new wr x.cells _;have af:=(HG.out.below (jc (jc M.out K.out.bel) (bR.alloc lr (.cells #[.bool x.no,.string (ke x.name),.int .i64 x.op,.string (ke x.ver)] 142)))).asg x.op h7;have S0:=iV (K.out.below (bR.alloc lr (.cells #[.bool x.no,.string (ke x.name),.int .i64 x.op,.string (ke x.ver)] 142)));have s1:(ke x.name).size<=64:=by rw[kL];exact HX.out.sizes.1
   have s2:(ke x.ver).size<=64:=by rw[kL];exact HX.out.sizes.2
   have s3:(xG x.op).size<=2:=by rw[<-iX,C9 x.op h7];exact Jz _
   go_upto_region 8 with(fail)
   go_cut [8] (fun v wx=>v=.string (ke x.name++xG x.op++ke x.ver)/\Hid (wQ w0 wx D B k J)/\Hid (jh wx wr.heap.size x.cells))
   case first=>
    go_quiet (fail);go_wp2;go_meet;exact⟨rfl,S0.out.below ⟨rfl,rfl,rfl,lr,fun _ _=>rfl⟩,K0.out.drewN _⟩
   case rest=>
   obtain⟨rfl,O,K1⟩:=hcut;clear e0 e1 e2 e3 ai af S0 K0;have c0:=K1.out.cell 0 _ rfl;have N:=iV (x.text_eq HX.out);have aj:(ke x.name++xG x.op++ke x.ver).size<=130:=by
    have h1:=HX.out.sizes;have h2:=Jz x.op;rw[<-iX,kK,kK,lS,lS,C9 x.op h7];simp;omega
   generalize ke x.name++xG x.op++ke x.ver=Y at *;cases hno:x.no with
   | false=>
    rw[hno] at c0 N;have H:Hid (bl Y=x.text):=N.out;clear N hno;go_wp2_with (at_builtin;refine je _ rfl _ _ _ rfl w0.heap.size 9 i0 _ 1 16 Tryz.underlying33 R ae aa Z rfl (by omega) (.slice B k J) k _ rfl (O.out.row.alloc _) (wc.heap.size+1) (some ⟨wc.heap.size,0,none⟩) 1 1 [.string Y] rfl (oe wc _ _) (by simp[Value.oneCell']) (by simp only[maxLen];omega) (by omega) (by simp;have:=O.out.bel.size;omega) ?_;intro v1 w1 I g1 a1);obtain⟨A1,c1,rfl⟩:=jk I;have R1:=iV (O.out.grow (x:=Y) I g1);clear I g1 a1;go_wp2;go_roundw
    case rel=>exact⟨k+1,D++[Y],A1,c1,by omega,rfl,by go_num,R1,by show _=_;rw[TK.out,List.map_append,HT.out];simp[H.out]⟩
    case measure=>simp[intOf];omega
   | true=>
    rw[hno] at c0 N;have H:Hid (bl ((⟨#[33]⟩:BA)++Y)=x.text):=N.out;clear N hno;go_wp2_with (at_builtin;refine je _ rfl _ _ _ rfl w0.heap.size 9 i0 _ 1 16 Tryz.underlying33 R ae aa Z rfl (by omega) (.slice B k J) k _ rfl (O.out.row.alloc _) (wc.heap.size+1) (some ⟨wc.heap.size,0,none⟩) 1 1 [.string (⟨#[33]⟩++Y)] rfl (oe wc _ _) (by simp[Value.oneCell']) (by simp only[maxLen];omega) (by omega) (by simp;have:=O.out.bel.size;omega) ?_;intro v1 w1 I g1 a1);obtain⟨A1,c1,rfl⟩:=jk I;have R1:=iV (O.out.grow (x:=⟨#[33]⟩++Y) I g1);clear I g1 a1;go_wp2;go_roundw
    case rel=>exact⟨k+1,D++[⟨#[33]⟩++Y],A1,c1,by omega,rfl,by go_num,R1,by show _=_;rw[TK.out,List.map_append,HT.out];simp[H.out]⟩
    case measure=>simp[intOf];omega
  ·have X:k=L.length:=by omega
   have EX:Hid (D.map bl=L.map mo.text):=by show _=_;rw[HT.out,X,List.take_length]
   have F:=K.out.len;have U:=uI K.out.row;have JL:Hid ((Lib.join (D.map bl) (bl ⟨#[32]⟩)).length<=140737488355328):=by
    have h1:=pZ (bl ⟨#[32]⟩) 131 (D.map bl) (fun y hy=>by rw[EX.out] at hy;obtain⟨z,hz,rfl⟩:=List.mem_map.1 hy;exact z.text_len (HL.out z hz));have h2:(bl ⟨#[32]⟩:LU).length=1:=rfl;rw[h2,List.length_map,F] at h1;show _<=_;omega
   have HJ:=iV (fun (_:Unit)=>ye B J D ⟨#[32]⟩ wr (by rw[F];exact jL K.out.row) (by omega) (by omega) JL.out);rw[F] at HJ;clear U JL F X;go_wp2_with fail;refine(HJ.out ()).mono ?_;rintro e w2 ⟨rfl,ad⟩;have ET:Hid (ke (Lib.join (D.map bl) (bl ⟨#[32]⟩))=ke (mf L)):=by show _=_;rw[EX.out];rfl
   have B2:Hid (Below w.heap.size w w2):=jc (jc M.out K.out.bel) ad;clear ad;go_wp2;go_ret2;exact⟨by rw[<-ET.out];rfl,B2.out⟩
theorem qw {w1:World}{row:Option Nat}(h:w.grownBy wr (some a))(k:wr.grownBy w1 row)(hr:∀ j,row=some j->w.heap.size<=j):w.grownBy w1 (some a):=
 ⟨k.os.trans h.os,k.tape.trans h.tape,k.output.trans h.output,Nat.le_trans h.size k.size,fun j z y=>(k.block j (Nat.lt_of_lt_of_le z h.size) (fun e=>by have:=hr j e.symm;omega)).trans (h.block j z y)⟩
structure SL (w wr:World) (a:Nat) (s:BA) (k n:Nat) (c:Int) (xs:List BA) (A:Option Addr) (m cc:Nat):Prop where
 len:xs.length=m
 row:wr.ownsRow w.heap.size 9 1 (.slice A m cc) m (strCells xs)
 dr:DR wr a s k n c
 gr:w.grownBy wr (some a)
 lt:a<w.heap.size
theorem SL.step {k':Nat}(h:SL w wr a s k n c xs A m cc)(hg:wr.grownBy w' (some a))(hd:DR w' a s k' n c'):SL w w' a s k' n c' xs A m cc:=
 ⟨h.len,jS h.row h.lt hg,hd,ja h.gr hg,h.lt⟩
theorem SL.alloc (h:SL w wr a s k n c xs A m cc)(o:Obj):SL w (wr.alloc o) a s k n c xs A m cc:=
 ⟨h.len,h.row.alloc o,h.dr.alloc o,pB h.gr o,h.lt⟩
theorem SL.grow (h:SL w wr a s k n c xs A m cc)
  (hr:w2.ownsRow w.heap.size 9 1 (.slice A1 (m+1) c1) (m+1) (strCells xs++[.string x]))
  (hg:(wr.alloc o).grownBy w2 (Value.slice A m cc).ownBlock):SL w w2 a s k n c (xs++[x]) A1 (m+1) c1:=by
 have y:=h.alloc o;refine⟨by simp[h.len],by rw[show strCells (xs++[x])=strCells xs++[.string x] by simp[strCells]];exact hr,y.dr.kept hg ?_,qw y.gr hg (fun j z=>(h.row.lt j z).1),h.lt⟩;intro e;have:=(h.row.lt a e.symm).1;have:=h.lt;omega
def oC (r:Option (List (LU)×LU))(a:Nat)(s:BA)(p n:Nat)(c:Int)(w:World)(e:Ending)(w':World):Prop:=
 match r with
  | none=>w.grownBy w' (some a)/\e=.returned (.tuple #[.slice none 0 0,.bool false])/\∃ p' c',DR w' a s p' n c'
  | some (L,r)=>∃ (A:Option Addr) (m cc:Nat) (xs:List BA) (p':Nat) (c':Int),e=.returned (.tuple #[.slice A m cc,.bool true])/\SL w w' a s p' n c' xs A m cc/\xs.map bl=L/\p<=p'/\(bl s).drop p'=r/\(c'=0↔c=0/\L.all (fun x=>mH (kY x))=true)
theorem oC.no {r:Option (List (LU)×LU)}(hr:r=none)(hg:w.grownBy w' (some a))(h:DR w' a s p' n c'):oC r a s p n c w (.returned (.tuple #[.slice none 0 0,.bool false])) w':=by
 subst hr;exact⟨hg,rfl,_,_,h⟩
theorem oC.yes {r:Option (List (LU)×LU)}(hr:r=some (xs.map bl,(bl s).drop p'))(h:SL w w' a s p' n c' xs A m cc)(hp:p<=p')(hc:c'=0↔c=0/\(xs.map bl).all (fun x=>mH (kY x))=true):oC r a s p n c w (.returned (.tuple #[.slice A m cc,.bool true])) w':=by
 subst hr;exact⟨A,m,cc,xs,p',c',rfl,h,rfl,hp,rfl,hc⟩
theorem Hp (hm:jl 33 ((bl s).drop k)=b)(hk:m=if b then k+1 else k)(ht:uq rk ((bl s).drop m)=none):qW ((bl s).drop k)=none:=by
 unfold qW kY;rw[hm];cases b<;>simp at hk<;>subst hk<;>simp[List.drop_drop,ht]
theorem Hq {x:LU}(hm:jl 33 ((bl s).drop k)=b)(hk:m=if b then k+1 else k)(ht:uq rk ((bl s).drop m)=some (x,r)):qW ((bl s).drop k)=some ((if b then [33] else [])++x,r):=by
 unfold qW kY Hh;rw[hm];cases b<;>simp at hk<;>subst hk<;>simp[List.drop_drop,ht]
theorem Hr {x:LU}(h:qW l=some (x,r)){y:LU}(hx:x=(if b then [33] else [])++y)(hm:jl 33 l=b):kY x=y:=by
 obtain⟨z,H,D,F⟩:=AJ h;rw[F];unfold Hh at D;rw[hm] at D;rw[hx] at D;cases b<;>simpa using D.symm
theorem Ot (F:Nat)(a:Nat)(s:BA)(p n:Nat)(c:Int)(w:World)(hs:s.size<=4294967280)(hF:s.size-p<F)(h:DR w a s p n c):Calls Tryz.prog 248 #[.pointer (some ⟨a,0,none⟩)] w (oC (oA F (jq ((bl s).drop p))) a s p n c w):=by
 obtain⟨i0,aj,ao,ak,am⟩:=info_parts sY;obtain⟨q,hq⟩:∃ q,p+jo jN ((bl s).drop p)=q:=⟨_,rfl⟩
 have hB:=jx a s p n c w hs h;rw[hq] at hB;have av:=h.sz;have HQ:Hid (p<=q):=by show _<=_;omega
 obtain⟨f0,al⟩:∃ f0,F=f0+1:=⟨F-1,by omega⟩
 have E0:Hid (oA F (jq ((bl s).drop p))=nJ (f0+1) [] ((bl s).drop q)):=by show _=_;rw[kW,hq,Gg,al]
 have an:Hid (s.size-q<=f0):=by have:=HQ.out;show _<=_;omega
 generalize oA F (jq ((bl s).drop p))=RR at E0;clear hq h al hF;go_in;go_wp2_with fail;refine hB.mono ?_;rintro e w1 ⟨rfl,y,z⟩;have S1:Hid (SL w w1 a s q n c [] none 0 0):=⟨rfl,World.ownsRow_nil _ _ _ _,y,z,av⟩
 have ap:=y.le;clear y z hB;go_wp2;go_loopw [2,3,4] (fun s2 s3 l wr=>∃ (k m cc f:Nat) (c':Int) (Z:List BA) (A:Option Addr),s2=.slice none 0 0/\s3=.bool false/\l=.slice A m cc/\k<=s.size/\m<=k/\Hid (SL w wr a s k n c' Z A m cc)/\Hid (p<=k)/\Hid (RR=nJ (f+1) (Z.map bl) ((bl s).drop k))/\Hid (s.size-k<=f)/\Hid (c'=0↔c=0/\(Z.map bl).all (fun x=>mH (kY x))=true)) (fun _ _ _ wr=>s.size-Jt a wr)
 case atStart=>exact⟨q,0,0,f0,c,[],none,rfl,rfl,rfl,ap,z0,S1,HQ,E0,an,by simp[Hid]⟩
 case round=>
  clear S1 ap HQ E0 an;obtain⟨k,m,cc,f,c',Z,A,rfl,rfl,rfl,hk,az,HS,HP,HE,HF,HC⟩:=hrel;have MA:=iV HS.out.dr.at_;cases hm:jl 33 ((bl s).drop k) with
  | true=>
   have HM:=iV hm;clear hm;go_wp2_with fail;refine(jD 33 a s k n c' wr hs HS.out.dr HM).mono ?_;rintro e w2 ⟨rfl,y,z⟩;have X:=iV (HS.out.step z y);clear y z;have ar:=X.out.dr.le;cases ht:uq rk ((bl s).drop (k+1)) with
   | none=>
    have HT:=iV ht;have U:Hid (RR=none):=by show _=_;rw[HE.out];exact xY (Hp HM.out rfl ht)
    clear ht;go_wp2_with fail;refine(qX a s (k+1) n c' w2 hs X.out.dr HT).mono ?_;rintro e w3 ⟨rfl,y,z⟩;have V:=iV (X.out.step z y);clear y z;go_wp2;go_ret2;exact oC.no U.out V.out.gr V.out.dr
   | some xr=>
    obtain⟨x,r⟩:=xr;have HT:=iV ht;obtain⟨t1,t2,t3,t4⟩:=nt X.out.dr.le ht;have A1:=iV (Hq HM.out rfl ht);have AB:=iV (Hr A1.out rfl HM.out);obtain⟨D,N⟩:∃ D,(k+1)+x.length+jo jN ((bl s).drop ((k+1)+x.length))=D:=⟨_,rfl⟩
    have SK:Hid (jq r=(bl s).drop D):=by show _=_;rw[<-t2,kW,N]
    have K:Hid (jl 32 ((bl s).drop ((k+1)+x.length))=jl 32 r):=by show _=_;rw[t2]
    have H:Hid (k<D):=by show _<_;omega
    have aq:(ke x).size<=4294967280:=by rw[kL];omega
    have ax:m<=4294967280:=by omega
    have ab:=iV (fun (d:Int) (W:World) (hD:DR W a s ((k+1)+x.length) n d)=>jx a s ((k+1)+x.length) n d W hs hD);rw[N,K.out] at ab;obtain⟨Y,hY⟩:∃ Y,(⟨#[33]⟩++ke x)=Y:=⟨_,rfl⟩
    have HY:Hid (bl Y=(if true then [33] else [])++x):=by show _=_;rw[<-hY];simp[kK,lS];rfl
    clear ht t1 t2 t3 t4 N K;go_wp2_with fail;refine(qY x r a s (k+1) n c' w2 hs X.out.dr HT).mono ?_;rintro e w3 ⟨rfl,⟨J,y,ad⟩,z⟩;have V:=iV (X.out.step z y);clear y z;have ae:Hid (J=0↔c=0/\((Z++[Y]).map bl).all (fun x=>mH (kY x))=true):=by
     have h1:=HC.out;have h2:=HY.out;have h3:=AB.out;show _↔_;rw[ad,h1,List.map_append,List.all_append];simp only[List.map_cons,List.map_nil,List.all_cons,List.all_nil,Bool.and_true,Bool.and_eq_true];rw[h2,h3];exact and_assoc
    clear ad;go_wp2_with (at_builtin;refine je _ rfl _ _ _ rfl w.heap.size 9 i0 _ 1 16 Tryz.underlying33 aj ao ak am rfl (by omega) (.slice A m cc) m _ rfl (V.out.row.alloc _) (w3.heap.size+1) (some ⟨w3.heap.size,0,none⟩) 1 1 [.string Y] rfl (oe w3 _ _) (by simp[Value.oneCell']) (by simp only[maxLen];omega) (by omega) (by simp;have:=V.out.gr.size;omega) ?_;intro v1 w4 o1 g1 a1);obtain⟨A4,c4,rfl⟩:=jk o1;have S4:=iV (V.out.grow (x:=Y) o1 g1);clear o1 g1 a1;go_wp2_with fail;refine(ab.out J w4 S4.out.dr).mono ?_;rintro e w5 ⟨rfl,y,z⟩;have O:=iV (S4.out.step z y);clear y z;have ac:=O.out.dr.le;cases h93:jl 93 ((bl s).drop D) with
    | true=>
     have I:=iV h93;obtain⟨k3,R⟩:∃ k3,D+1+jo jN ((bl s).drop (D+1))=k3:=⟨_,rfl⟩
     have U:Hid (RR=some ((Z++[Y]).map bl,(bl s).drop k3)):=by
      show _=_;rw[HE.out,AH A1.out (by rw[SK.out];exact h93),SK.out,List.drop_drop,kW,R,List.map_append,List.map_cons,List.map_nil,HY.out]
     have aa:=iV (fun (W:World) (hD:DR W a s (D+1) n J)=>jx a s (D+1) n J W hs hD);rw[R] at aa;have ag:Hid (p<=k3):=by have:=HP.out;have:=H.out;show _<=_;omega
     clear h93 R;go_wp2_with fail;refine(jD 93 a s D n J w5 hs O.out.dr I).mono ?_;rintro e w6 ⟨rfl,y,z⟩;have M:=iV (O.out.step z y);clear y z;go_wp2_with fail;refine(aa.out w6 M.out.dr).mono ?_;rintro e w7 ⟨rfl,y,z⟩;have S7:=iV (M.out.step z y);clear y z;go_wp2;go_ret2;exact oC.yes U.out S7.out ag.out ae.out
    | false=>
     have I:=iV h93;cases h32:jl 32 r with
     | true=>
      have U:Hid (RR=nJ (f-1+1) ((Z++[Y]).map bl) ((bl s).drop D)):=by
       have hf:=HF.out;have au:=H.out;show _=_;rw[HE.out,xZ A1.out (by rw[SK.out];exact h93) h32,SK.out,List.map_append,List.map_cons,List.map_nil,HY.out,show f-1+1=f by omega]
      have ai:Hid (s.size-D<=f-1):=by have:=HF.out;have:=H.out;show _<=_;omega
      have ah:Hid (p<=D):=by have:=HP.out;have:=H.out;show _<=_;omega
      have af:m+1<=D:=by have:=H.out;omega
      clear h93 h32;go_wp2_with fail;refine(js 93 a s D n J w5 hs O.out.dr I).mono ?_;rintro e w6 ⟨rfl,y,z⟩;have M:=iV (O.out.step z y);clear y z;go_wp2;go_roundw
      case rel=>exact⟨D,m+1,c4,f-1,J,Z++[Y],A4,rfl,rfl,rfl,ac,af,M,ah,U,ai,ae⟩
      case measure=>rw[M.out.dr.at_,MA.out];have:=H.out;omega
     | false=>
      have U:Hid (RR=none):=by show _=_;rw[HE.out];exact AI A1.out (by rw[SK.out];exact h93) h32
      clear h93 h32;go_wp2_with fail;refine(js 93 a s D n J w5 hs O.out.dr I).mono ?_;rintro e w6 ⟨rfl,y,z⟩;have M:=iV (O.out.step z y);clear y z;go_wp2;go_ret2;exact oC.no U.out M.out.gr M.out.dr
  | false=>
   have HM:=iV hm;clear hm;go_wp2_with fail;refine(js 33 a s k n c' wr hs HS.out.dr HM).mono ?_;rintro e w2 ⟨rfl,y,z⟩;have X:=iV (HS.out.step z y);clear y z;have ar:=X.out.dr.le;cases ht:uq rk ((bl s).drop k) with
   | none=>
    have HT:=iV ht;have U:Hid (RR=none):=by show _=_;rw[HE.out];exact xY (Hp HM.out rfl ht)
    clear ht;go_wp2_with fail;refine(qX a s k n c' w2 hs X.out.dr HT).mono ?_;rintro e w3 ⟨rfl,y,z⟩;have V:=iV (X.out.step z y);clear y z;go_wp2;go_ret2;exact oC.no U.out V.out.gr V.out.dr
   | some xr=>
    obtain⟨x,r⟩:=xr;have HT:=iV ht;obtain⟨t1,t2,t3,t4⟩:=nt X.out.dr.le ht;have A1:=iV (Hq HM.out rfl ht);have AB:=iV (Hr A1.out rfl HM.out);obtain⟨D,N⟩:∃ D,k+x.length+jo jN ((bl s).drop (k+x.length))=D:=⟨_,rfl⟩
    have SK:Hid (jq r=(bl s).drop D):=by show _=_;rw[<-t2,kW,N]
    have K:Hid (jl 32 ((bl s).drop (k+x.length))=jl 32 r):=by show _=_;rw[t2]
    have H:Hid (k<D):=by show _<_;omega
    have aq:(ke x).size<=4294967280:=by rw[kL];omega
    have ax:m<=4294967280:=by omega
    have ab:=iV (fun (d:Int) (W:World) (hD:DR W a s (k+x.length) n d)=>jx a s (k+x.length) n d W hs hD);rw[N,K.out] at ab;obtain⟨Y,hY⟩:∃ Y,(ke x)=Y:=⟨_,rfl⟩
    have HY:Hid (bl Y=(if false then [33] else [])++x):=by show _=_;rw[<-hY];simp[kK,lS]
    have ay:Y.size<=4294967280:=by rw[<-hY];exact aq
    clear ht t1 t2 t3 t4 N K;go_wp2_with fail;refine(qY x r a s k n c' w2 hs X.out.dr HT).mono ?_;rintro e w3 ⟨rfl,⟨J,y,ad⟩,z⟩;have V:=iV (X.out.step z y);clear y z;have ae:Hid (J=0↔c=0/\((Z++[Y]).map bl).all (fun x=>mH (kY x))=true):=by
     have h1:=HC.out;have h2:=HY.out;have h3:=AB.out;show _↔_;rw[ad,h1,List.map_append,List.all_append];simp only[List.map_cons,List.map_nil,List.all_cons,List.all_nil,Bool.and_true,Bool.and_eq_true];rw[h2,h3];exact and_assoc
    clear ad;go_wp2_with (at_builtin;refine je _ rfl _ _ _ rfl w.heap.size 9 i0 _ 1 16 Tryz.underlying33 aj ao ak am rfl (by omega) (.slice A m cc) m _ rfl (V.out.row.alloc _) (w3.heap.size+1) (some ⟨w3.heap.size,0,none⟩) 1 1 [.string Y] rfl (oe w3 _ _) (by simp[Value.oneCell']) (by simp only[maxLen];omega) (by omega) (by simp;have:=V.out.gr.size;omega) ?_;intro v1 w4 o1 g1 a1);obtain⟨A4,c4,rfl⟩:=jk o1;have S4:=iV (V.out.grow (x:=Y) o1 g1);clear o1 g1 a1;go_wp2_with fail;refine(ab.out J w4 S4.out.dr).mono ?_;rintro e w5 ⟨rfl,y,z⟩;have O:=iV (S4.out.step z y);clear y z;have ac:=O.out.dr.le;cases h93:jl 93 ((bl s).drop D) with
    | true=>
     have I:=iV h93;obtain⟨k3,R⟩:∃ k3,D+1+jo jN ((bl s).drop (D+1))=k3:=⟨_,rfl⟩
     have U:Hid (RR=some ((Z++[Y]).map bl,(bl s).drop k3)):=by
      show _=_;rw[HE.out,AH A1.out (by rw[SK.out];exact h93),SK.out,List.drop_drop,kW,R,List.map_append,List.map_cons,List.map_nil,HY.out]
     have aa:=iV (fun (W:World) (hD:DR W a s (D+1) n J)=>jx a s (D+1) n J W hs hD);rw[R] at aa;have ag:Hid (p<=k3):=by have:=HP.out;have:=H.out;show _<=_;omega
     clear h93 R;go_wp2_with fail;refine(jD 93 a s D n J w5 hs O.out.dr I).mono ?_;rintro e w6 ⟨rfl,y,z⟩;have M:=iV (O.out.step z y);clear y z;go_wp2_with fail;refine(aa.out w6 M.out.dr).mono ?_;rintro e w7 ⟨rfl,y,z⟩;have S7:=iV (M.out.step z y);clear y z;go_wp2;go_ret2;exact oC.yes U.out S7.out ag.out ae.out
    | false=>
     have I:=iV h93;cases h32:jl 32 r with
     | true=>
      have U:Hid (RR=nJ (f-1+1) ((Z++[Y]).map bl) ((bl s).drop D)):=by
       have hf:=HF.out;have au:=H.out;show _=_;rw[HE.out,xZ A1.out (by rw[SK.out];exact h93) h32,SK.out,List.map_append,List.map_cons,List.map_nil,HY.out,show f-1+1=f by omega]
      have ai:Hid (s.size-D<=f-1):=by have:=HF.out;have:=H.out;show _<=_;omega
      have ah:Hid (p<=D):=by have:=HP.out;have:=H.out;show _<=_;omega
      have af:m+1<=D:=by have:=H.out;omega
      clear h93 h32;go_wp2_with fail;refine(js 93 a s D n J w5 hs O.out.dr I).mono ?_;rintro e w6 ⟨rfl,y,z⟩;have M:=iV (O.out.step z y);clear y z;go_wp2;go_roundw
      case rel=>exact⟨D,m+1,c4,f-1,J,Z++[Y],A4,rfl,rfl,rfl,ac,af,M,ah,U,ai,ae⟩
      case measure=>rw[M.out.dr.at_,MA.out];have:=H.out;omega
     | false=>
      have U:Hid (RR=none):=by show _=_;rw[HE.out];exact AI A1.out (by rw[SK.out];exact h93) h32
      clear h93 h32;go_wp2_with fail;refine(js 93 a s D n J w5 hs O.out.dr I).mono ?_;rintro e w6 ⟨rfl,y,z⟩;have M:=iV (O.out.step z y);clear y z;go_wp2;go_ret2;exact oC.no U.out M.out.gr M.out.dr
end
section
open Go.RowKit
structure kP.good (t:kP):Prop where
 right:t.right=true
 op:t.op<=5
 ver:t.op=0->t.ver=[]
 few:t.archs.length<=1000000
structure kP.shape (t:kP) (n:Nat):Prop where
 op:t.op<=5
 ver:t.op=0->t.ver=[]
 few:t.archs.length<=n
theorem aag (l:LU):(AG l).1<=5:=by
 unfold AG;repeat' split
 all_goals simp
theorem VO (h:lf n l=some (op,v,r)):op=n/\n≠0/\r.length<=l.length:=by
 unfold lf at h;split at h
 ·cases h
 ·rename_i z;split at h
  ·cases h
  ·rename_i a b ht;unfold sI at h;split at h
   ·injection h with h;injection h with h1 h;injection h with h2 h3;refine⟨h1.symm,z,?_⟩;rw[<-h3];have F:=Jo ht;have D:=nr l;have H:=nr b;have y:=nr ((jq b).drop 1);rw[List.length_drop] at y;omega
   ·cases h
theorem Yy (l:LU):(AG l).2.length<=l.length:=by
 unfold AG;repeat' split
 all_goals simp
 all_goals omega
theorem Lo (h:qp l=some (op,v,r)):op<=5/\(op=0->v=[])/\r.length<=l.length:=by
 unfold qp at h;split at h
 ·unfold CO at h;obtain⟨z,y,D⟩:=VO h;refine⟨by rw[z];exact aag _,fun H=>absurd (z.symm.trans H) y,?_⟩;have I:=Yy (jq (l.drop 1));have F:=nr (l.drop 1);rw[List.length_drop] at F;omega
 ·injection h with h;injection h with z h;injection h with y D;exact⟨by omega,fun _=>y.symm,by rw[D];exact Nat.le_refl _⟩
theorem Hw (l:LU):(kY l).length<=l.length:=by unfold kY;split<;>simp
theorem Dt:∀ (f:Nat)(l r:LU)(L:List (LU)),oA f l=some (L,r)->L.length<=l.length/\r.length<=l.length
 | 0,l,r,L,h=>by simp[oA] at h
 | f+1,l,r,L,h=>by
  unfold oA at h;split at h
  ·cases h
  ·rename_i a b D;obtain⟨x,F,_,_⟩:=AJ D;have K:=Jo F;have J:=Hw l;have N:=nr b;split at h
   ·injection h with h;injection h with h2 h3;have z:=nr ((jq b).drop 1);rw[List.length_drop] at z;subst h2;subst h3;constructor
    ·simp;omega
    ·omega
   ·split at h
    ·obtain⟨⟨M,q⟩,H,y⟩:=Option.map_eq_some_iff.1 h;injection y with y h6;obtain⟨I,O⟩:=Dt f (jq b) q M H;subst y;subst h6;constructor
     ·simp;omega
     ·show q.length<=_;omega
    ·cases h
theorem Lp {t:kP}(h:oS l=some (t,r)):t.shape l.length/\r.length<l.length:=by
 unfold oS at h;split at h
 ·cases h
 ·rename_i nm K J;have a0:=Jo J;split at h
  ·cases h
  ·rename_i q H z;have V:H.length<=K.length:=by
    unfold qS at z;split at z
    ·have:=Jo z;rw[List.length_drop] at this;omega
    ·injection z with z;injection z with _ z;rw[z];exact Nat.le_refl _
   have R:=nr H;split at h
   ·cases h
   ·rename_i op v D I;obtain⟨M,O,X⟩:=Lo I;split at h
    ·cases h
    ·rename_i F N y;have Z:F.length<=D.length/\N.length<=D.length:=by
      unfold oW at y;split at y
      ·obtain⟨U,Y⟩:=Dt _ _ _ _ y;have:=nr (D.drop 1);rw[List.length_drop] at this;constructor<;>omega
      ·injection y with y;injection y with y h4;subst y;subst h4;simp
     injection h with h;injection h with h5 h6;subst h5;subst h6;exact⟨⟨M,O,by show F.length<=_;omega⟩,by omega⟩
theorem wU {t:kP}(h:t.shape n)(hn:n<=m):t.shape m:=⟨h.op,h.ver,Nat.le_trans h.few hn⟩
theorem yj:∀ (f:Nat)(l r:LU)(g:List kP),mZ f l=some (g,r)->g≠[]/\(∀ t∈g,t.shape l.length)/\r.length<=l.length
 | 0,l,r,g,h=>by simp[mZ] at h
 | f+1,l,r,g,h=>by
  unfold mZ at h;split at h
  ·cases h
  ·rename_i t J I;obtain⟨D,O⟩:=Lp I;split at h
   ·obtain⟨⟨M,q⟩,H,y⟩:=Option.map_eq_some_iff.1 h;injection y with y h6;obtain⟨N,K,R⟩:=yj f _ q M H;have F:=nr (J.drop 1);rw[List.length_drop] at F;subst y;subst h6;refine⟨by simp,fun x z=>?_,by show q.length<=_;omega⟩;rcases List.mem_cons.1 z with rfl | z
    ·exact D
    ·exact wU (K x z) (by omega)
   ·injection h with h;injection h with y h6;subst y;subst h6;refine⟨by simp,fun x z=>?_,by omega⟩;obtain rfl:=List.mem_singleton.1 z;exact D
theorem wh:∀ (f:Nat)(l:LU)(L:List (List kP)),ou f l=some L->∀ g∈L,g≠[]/\∀ t∈g,t.shape l.length
 | 0,l,L,h=>by simp[ou] at h
 | f+1,l,L,h=>by
  unfold ou at h;split at h
  ·cases h
  ·rename_i R N I;obtain⟨D,z,O⟩:=yj _ _ _ _ I;split at h
   ·injection h with h;subst h;intro g y;obtain rfl:=List.mem_singleton.1 y;exact⟨D,z⟩
   ·split at h
    ·obtain⟨M,J,rfl⟩:=Option.map_eq_some_iff.1 h;have H:=nr (N.drop 1);rw[List.length_drop] at H;intro g y;rcases List.mem_cons.1 y with rfl | y
     ·exact⟨D,z⟩
     ·obtain⟨F,K⟩:=wh f _ M J g y;exact⟨F,fun t ht=>wU (K t ht) (by omega)⟩
    ·cases h
theorem Lq {L:List (List kP)}(h:tn l=some L):∀ g∈L,g≠[]/\∀ t∈g,t.shape l.length:=by
 unfold tn at h;split at h
 ·injection h with h;subst h;simp
 ·intro g z;obtain⟨D,y⟩:=wh _ _ _ h g z;exact⟨D,fun t ht=>wU (y t ht) (nr _)⟩
structure rx (L:List (List kP)):Prop where
 ne:∀ g∈L,g≠[]
 good:∀ g∈L,∀ t∈g,t.good
 sum:(L.map List.length).sum<=64
theorem wV {L:List (List kP)}(h:mB l=some L)(hl:l.length<=1000000):rx L:=by
 unfold mB at h;split at h
 ·cases h
 ·rename_i M H;split at h
  ·rename_i y;injection h with h;subst h;have F:=Lq H;unfold Bl at y;simp only[Bool.and_eq_true,List.all_eq_true,decide_eq_true_eq] at y;refine⟨fun g z=>(F g z).1,fun g z t ht=>?_,y.2⟩;have D:=(F g z).2 t ht;exact⟨y.1 g z t ht,D.op,D.ver,Nat.le_trans D.few hl⟩
  ·cases h
theorem rx.nil:rx []:=⟨by simp,by simp,by simp⟩
theorem aah {L:List (List kP)}{g:List kP}(h:g∈L):g.length<=(L.map List.length).sum:=by
 induction L with
 | nil=>simp at h
 | cons a r ih=>
  rcases List.mem_cons.1 h with rfl | h
  ·simp
  ·have:=ih h;simp;omega
theorem rx.few {L:List (List kP)}(h:rx L):L.length<=64:=by
 have F:=h.sum;have:∀ (M:List (List kP)),(∀ g∈M,g≠[])->M.length<=(M.map List.length).sum:=by
  intro M
  induction M with
  | nil=>simp
  | cons a r ih=>
   intro y;have D:=ih (fun g z=>y g (List.mem_cons_of_mem _ z));have H:0<a.length:=List.length_pos_iff.2 (y a (by simp));simp;omega
 have:=this L h.ne;omega
theorem SX (h:jZ l=true):l.length<=64:=by unfold jZ at h;simp at h;omega
theorem Hx (h:mH l=true):l.length<=32:=by unfold mH at h;simp at h;omega
theorem SY (l:LU):l.length<=(kY l).length+1:=by unfold kY;split<;>simp;omega
structure kP.sizes (t:kP):Prop where
 nm:t.name.length<=64
 qual:t.qual.length<=32
 ver:t.ver.length<=64
 archs:∀ x∈t.archs,x.length<=33
structure kP.parts (t:kP):Prop where
 nm:jZ t.name=true
 qual:t.qual=[]\/mH t.qual=true
 archs:∀ x∈t.archs,mH (kY x)=true
 ver:0<t.op->kf 1 (ke t.ver)=0
theorem kP.good.parts {t:kP}(h:t.good):t.parts:=by
 have z:=h.right;unfold kP.right at z;simp only[Bool.and_eq_true,Bool.or_eq_true,List.all_eq_true,decide_eq_true_eq,List.isEmpty_iff] at z;obtain⟨⟨⟨F,D⟩,H⟩,y⟩:=z
 exact⟨F,D,H,fun I=>by     rcases y with y | y;· omega
                           ·exact y⟩
theorem kP.good.sizes {t:kP}(h:t.good):t.sizes:=by
 have p:=h.parts;refine⟨SX p.nm,?_,?_,fun x z=>?_⟩
 ·rcases p.qual with y | y
  ·rw[y];simp
  ·exact Hx y
 ·by_cases y:t.op=0
  ·rw[h.ver y];simp
  ·have:=Ho (p.ver (by omega));rw[kL] at this;exact this
 ·have:=Hx (p.archs x z);have:=SY x;omega
def yu (fmt:Int)(l:LU):Bool:=if fmt=1 then jZ l else if fmt=2 then mC l else lV l
theorem BH (fmt:Int)(s:BA)(w:World)(hs:s.size<=9223372036854775807):Calls Tryz.prog 112 #[.int .i64 fmt,.string s] w fun e w'=>e=.returned (.bool (yu fmt (bl s)))/\w=w':=by
 by_cases y:fmt=1
 ·subst y;have E:Hid (yu 1 (bl s)=jZ (bl s)):=rfl;go_in;go_wp2_with fail;refine(pE s _ hs).mono ?_;rintro e w' ⟨rfl,rfl⟩;go_wp2;go_ret;exact⟨iW E.out.symm,rfl⟩
 have D:(fmt==1)=false:=by simpa using y
 by_cases z:fmt=2
 ·subst z;have E:Hid (yu 2 (bl s)=mC (bl s)):=rfl;clear y D;go_in;go_wp2_with fail;refine(vv s _ hs).mono ?_;rintro e w' ⟨rfl,rfl⟩;go_wp2;go_ret;exact⟨iW E.out.symm,rfl⟩
 have F:(fmt==2)=false:=by simpa using z
 have E:Hid (yu fmt (bl s)=lV (bl s)):=by show _=_;unfold yu;rw[if_neg y,if_neg z]
 clear y z;go_in;go_wp2_with fail;refine(zf s _ hs).mono ?_;rintro e w' ⟨rfl,rfl⟩;go_wp2;go_ret;exact⟨iW E.out.symm,rfl⟩
def tG (fmt:Int)(x:jf):Bool:=yu fmt (bl x.nm)&&(if x.op=0 then decide (x.ver.size=0) else decide (x.op=3)&&decide (kf fmt x.ver=0))
def oY (fmt:Int)(l:List jf):Bool:=decide (l.length<=32)&&l.all (tG fmt)
theorem LW {l:List jf}(h:32<l.length):oY fmt l=false:=by
 unfold oY;rw[dF];rfl
theorem TC {l:List jf}{x:jf}(h:x∈l)(hx:tG fmt x=false):oY fmt l=false:=by
 unfold oY;have:l.all (tG fmt)=false:=by rw[List.all_eq_false];exact⟨x,h,by rw[hx];simp⟩
 rw[this];simp
theorem Pa {l:List jf}(h:¬ 32<l.length)(hx:∀ (j:Nat) x,l[j]?=some x->tG fmt x=true):oY fmt l=true:=by
 unfold oY;have:l.all (tG fmt)=true:=by rw[List.all_eq_true];intro x z;obtain⟨j,y⟩:=List.getElem?_of_mem z;exact hx j x y
 rw[this,dT];rfl
theorem zB (fmt:Int)(A:Option Addr)(c:Nat)(l:List jf)(w:World)(hG:Gl w)(hr:Rd w 3 A l.length (l.flatMap jf.cells))(hn:l.length<=9223372036854775807)(hf:∀ x∈l,x.nm.size<=4294967280/\x.ver.size<=4294967280):Calls Tryz.prog 70 #[.int .i64 fmt,.slice A l.length c] w fun e w'=>e=.returned (.bool (oY fmt l))/\Below w.heap.size w w':=by
 have HG:=iV hG;have HR:=iV hr;have HF:=iV hf;clear hG hr hf;by_cases Y:32<l.length
 ·have E:=iV (LW (fmt:=fmt) Y);go_in;go_wp2;go_ret;exact⟨iW E.out.symm,bR⟩
 go_in;go_wp2;go_loopw [12] (fun i wr=>∃ k:Nat,k<=l.length/\i=.int .i64 k/\Hid (Below w.heap.size w wr)/\Hid (∀ (j:Nat) x,j<k->l[j]?=some x->tG fmt x=true)) (fun i _=>l.length-(intOf i).toNat)
 case atStart=>exact⟨0,z0,rfl,bR,fun j x h=>absurd h (Nat.not_lt_zero _)⟩
 case round=>
  obtain⟨k,hk,rfl,HB,HA⟩:=hrel;by_cases U:k<l.length
  ·obtain⟨x,X⟩:∃ x,l[k]?=some x:=⟨_,gG U⟩
   obtain⟨b,off,hA,Z⟩:=(HR.out.below HB.out).elem md k x X;have e0:=Z 0 _ rfl;have e1:=Z 1 _ rfl;have e2:=Z 2 _ rfl;simp only[Nat.add_zero] at e0;have aa:=fun W=>jm (T:=34) (E:=78) (sz:=3) (c:=c) Tryz.underlying34 rfl Tryz.sizeOf78 hA U W;obtain⟨z1,z2⟩:=HF.out x (gM X);have I:=iV (fun h=>TC (fmt:=fmt) (gM X) h);have N:Hid (tG fmt x=true->∀ (j:Nat) y,j<k+1->l[j]?=some y->tG fmt y=true):=by
    intro h j y hj R;by_cases e:j=k
    ·subst e;rw[X] at R;injection R with R;rw[<-R];exact h
    ·exact HA.out j y (by omega) R
   clear X Z hA;have J:=fun W=>BH fmt x.nm W (by omega);have M:Hid (Below w.heap.size w (wr.alloc (.cells #[.string x.nm,.int .i64 x.op,.string x.ver] 78))):=HB.out.alloc HB.out.size _;cases hnm:yu fmt (bl x.nm) with
   | false=>
    have E:=iV (I.out (by unfold tG;rw[hnm];rfl));rw[hnm] at J;clear hnm;go_wp2_with fail;refine(J _).mono ?_;rintro e w' ⟨rfl,rfl⟩;go_wp2;go_ret;exact⟨iW E.out.symm,M.out⟩
   | true=>
    rw[hnm] at J;have V:Hid (tG fmt x=if x.op=0 then decide (x.ver.size=0) else decide (x.op=3)&&decide (kf fmt x.ver=0)):=by show _=_;unfold tG;rw[hnm];rfl
    clear hnm;by_cases D:x.op=0
    ·have q0:(x.op==0)=true:=by simpa using D
     by_cases z:x.ver.size=0
     ·have O:x.ver.toList=[]:=by rw[iY,kw _ z]
      have F:x.ver.toList.isEmpty=true:=by rw[O];rfl
      have G:=iV (N.out (by rw[V.out,if_pos D,dT z]));clear D z;go_wp2_with fail;refine(J _).mono ?_;rintro e w' ⟨rfl,rfl⟩;go_wp2;go_roundw
      case rel=>exact⟨k+1,by omega,by go_num,M,G⟩
      case measure=>simp[intOf];omega
     ·have F:x.ver.toList.isEmpty=false:=by rw[iY,jB];exact dF z
      have O:¬ x.ver.toList=[]:=by intro h;rw[h] at F;simp at F
      have E:=iV (I.out (by rw[V.out,if_pos D,dF z]));clear D z;go_wp2_with fail;refine(J _).mono ?_;rintro e w' ⟨rfl,rfl⟩;go_wp2;go_ret;exact⟨iW E.out.symm,M.out⟩
    have q0:(x.op==0)=false:=by simpa using D
    by_cases K:x.op=3
    ·have q3:(x.op==3)=true:=by simpa using K
     by_cases z:kf fmt x.ver=0
     ·have F:(kf fmt x.ver != 0)=false:=by simp[z]
      have G:=iV (N.out (by rw[V.out,if_neg D,dT K,dT z];rfl));clear D K z;go_wp2_with fail;refine(J _).mono ?_;rintro e w' ⟨rfl,rfl⟩;go_wp2_with fail;refine(jT fmt x.ver _ (HG.out.below M.out) (by omega)).mono ?_;rintro e w1 ⟨rfl,H⟩;have B2:Hid (Below w.heap.size w w1):=jc M.out H;clear H;go_wp2;go_roundw
      case rel=>exact⟨k+1,by omega,by go_num,B2,G⟩
      case measure=>simp[intOf];omega
     ·have F:(kf fmt x.ver != 0)=true:=by simp[z]
      have E:=iV (I.out (by rw[V.out,if_neg D,dT K,dF z];rfl));clear D K z;go_wp2_with fail;refine(J _).mono ?_;rintro e w' ⟨rfl,rfl⟩;go_wp2_with fail;refine(jT fmt x.ver _ (HG.out.below M.out) (by omega)).mono ?_;rintro e w1 ⟨rfl,H⟩;have B2:Hid (Below w.heap.size w w1):=jc M.out H;clear H;go_wp2;go_ret;exact⟨iW E.out.symm,B2.out⟩
    ·have q3:(x.op==3)=false:=by simpa using K
     have E:=iV (I.out (by rw[V.out,if_neg D,dF K];rfl));clear D K;go_wp2_with fail;refine(J _).mono ?_;rintro e w' ⟨rfl,rfl⟩;go_wp2;go_ret;exact⟨iW E.out.symm,M.out⟩
  ·have E:=iV (Pa (fmt:=fmt) Y (fun j x hj=>HA.out j x (by have:=(gS hj).1;omega) hj));go_wp2;go_ret;exact⟨iW E.out.symm,HB.out⟩
end
end Go.Proofs.YtkmjcombhjombaaGreatDoor
