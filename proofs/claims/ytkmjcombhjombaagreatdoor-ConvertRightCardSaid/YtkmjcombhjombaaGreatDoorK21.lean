/- A part of the proof. -/
import Derived.Test.YtkmjcombhjombaaGreatDoorK19
import Derived.Test.YtkmjcombhjombaaGreatDoorK20
set_option maxRecDepth 100000
set_option maxHeartbeats 20000000
set_option linter.unusedVariables false
set_option linter.unusedSimpArgs false
namespace Go.Proofs.YtkmjcombhjombaaGreatDoor
variable{x:BA}{bar:Bool}{fmt:Int}{l s:LU}{zs:List (LU)}{xs:List BA}{dv:List Value}{B b c c1 c2 g0 gc j k n n1 n2:Nat}{o:Obj}{A A1 A2 G:Option Addr}{P:Program}{name:String}{t0:TypeId}{W W0 w w' w2 wr:World}
section
open Go.RowKit Go.Deep
theorem VP (k:Nat)(hk:k<6):bl (Ko k)=KW k:=by
 rcases(by omega:k=0\/k=1\/k=2\/k=3\/k=4\/k=5) with rfl | rfl | rfl | rfl | rfl | rfl<;>rfl
theorem QV (k:Nat):(KW k).length<=2:=by unfold KW;split<;>simp
def wj (q:LU):LU:=if q.isEmpty then [] else 58::q
def Gt (op:Nat)(v:LU):LU:=if op=0 then [] else [32,40]++KW op++[32]++v++[41]
def Dw (a:List (LU)):LU:=if a.isEmpty then [] else [32,91]++Lib.join a [32]++[93]
theorem Dx (t:kP):t.text=t.name++wj t.qual++Gt t.op t.ver++Dw t.archs:=rfl
theorem Lr (op:Nat)(v:LU):(Gt op v).length<=v.length+6:=by
 have:=QV op;unfold Gt;split<;>simp;omega
theorem SZ (a:List (LU))(h:∀ x∈a,x.length<=33)(hn:a.length<=1000000):(Dw a).length<=34000003:=by
 have:=pZ [32] 33 a h;unfold Dw;split
 ·simp
 ·simp at this |-;omega
theorem Ta (t:kX)(h:t.okT)(w:World)(hG:Gl w)(hr:Rd w 1 t.aa t.archs.length (strCells t.archs))(hac:t.archs.length<=t.ac):Calls Tryz.prog 192 #[t.val] w fun e w'=>e=.returned (.string (ke t.pl.text))/\Below w.heap.size w w':=by
 rw[Dx];unfold kX.val kX.pl;obtain⟨h1,h2,h3,h4,h5,h6,h7,h8,h9,Z,ad⟩:=h;have HG:=iV hG;have HR:=iV hr;have HZ:=iV Z;have HQ:=iV h2;clear hG hr h1 h2 h3 Z h5 h6;obtain⟨nm,op,ver,z,aa,ac,archs⟩:=t;simp only at *;have JL:Hid ((Lib.join (archs.map bl) [32]).length<=34000000):=by
  have:=pZ [32] 33 (archs.map bl) (fun x hx=>by obtain⟨y,hy,rfl⟩:=List.mem_map.1 hx;rw[iX];exact HZ.out y hy);rw[List.length_map] at this;show _<=_;simp at this;omega
 have HJ:=iV (fun (W:World) (hb:Below w.heap.size w W)=>ye aa ac archs ⟨#[32]⟩ W (HR.out.below hb) hac (by omega) (by have:=JL.out;rw[show bl ⟨#[32]⟩=[32] from rfl];omega));obtain⟨O,D⟩:∃ O,w.alloc (.cells #[.string nm,.int .i64 op,.string ver,.string z,.slice aa archs.length ac] 196)=O:=⟨_,rfl⟩
 have N:Hid (jh O w.heap.size [.string nm,.int .i64 op,.string ver,.string z,.slice aa archs.length ac]):=by rw[<-D];exact jh.new w _ _
 have B1:Hid (Below w.heap.size w O):=by rw[<-D];exact bR.alloc lr _
 obtain⟨H,F⟩:∃ H,archs.length=H:=⟨_,rfl⟩
 rw[F] at N HJ D ad;rw[F];have M:=iV F;clear F hac;obtain⟨c0,c1,c2,c3,c4,f0,f1,f2,f3,f4⟩:=N.out.five;clear f0 f1 f2 f3 f4;go_in;obtain⟨bq,X⟩:∃ bq,z.toList.isEmpty=bq:=⟨_,rfl⟩
 have Y:Hid (decide (z.size=0)=bq):=by show _=_;rw[<-jB,<-iY];exact X
 go_upto_if 9 with(fail)
 clear D X;go_cut [3] (fun v wx=>∃ S:BA,v=.string S/\S.size<=100/\O=wx/\Hid (bl S=bl nm++wj (bl z)))
 case first=>
  cases bq with
  | true=>
   have E:Hid (bl nm=bl nm++wj (bl z)):=by show _=_;rw[kw z (dO Y.out)];simp[wj]
   go_wp2;go_meet;exact⟨nm,rfl,by omega,rfl,E⟩
  | false=>
   have E:Hid (bl (nm++(⟨#[58]⟩++z))=bl nm++wj (bl z)):=by
    show _=_;rw[kK,kK];unfold wj;rw[jB,Y.out];rfl
   have hz:(nm++(⟨#[58]⟩++z)).size<=100:=by rw[<-iX,kK,kK];simp[iX];have:(⟨#[58]⟩:BA).size=1:=rfl;omega
   have af:=iV hz;clear hz;go_wp2;go_meet;exact⟨_,rfl,af.out,rfl,E⟩
 case rest=>
 obtain⟨S,rfl,hS,rfl,ES⟩:=hcut;have ab:=(HG.out.below B1.out).dsg op (by omega);have ae:(Ko op).size<=2:=by rw[<-iX,VP op (by omega)];exact QV _
 go_upto_if 18 with(fail)
 go_cut [3] (fun v wx=>∃ I:BA,v=.string I/\I.size<=200/\Hid (Below w.heap.size w wx)/\Hid (jh wx w.heap.size [.string nm,.int .i64 op,.string ver,.string z,.slice aa H ac])/\Hid (bl I=bl S++Gt op (bl ver)))
 case first=>
  by_cases K:op=0
  ·have E:Hid (bl S=bl S++Gt op (bl ver)):=by show _=_;simp[Gt,K]
   have o1:((op:Int) != 0)=false:=by simp[K]
   clear K;go_wp2;go_meet;exact⟨S,rfl,by omega,B1,N,E⟩
  ·have o1:((op:Int) != 0)=true:=by simp[K]
   have E:Hid (bl (S++(⟨#[32,40]⟩++Ko op++⟨#[32]⟩++ver++⟨#[41]⟩))=bl S++Gt op (bl ver)):=by
    show _=_;simp only[kK];unfold Gt;rw[if_neg K,VP op (by omega)];rfl
   have hz:Hid ((S++(⟨#[32,40]⟩++Ko op++⟨#[32]⟩++ver++⟨#[41]⟩)).size<=200):=by
    show _<=_;rw[<-iX,E.out,List.length_append,iX];have:=Lr op (bl ver);rw[iX] at this;omega
   have o2:(op:Int)<6:=by omega
   have o3:(0:Int)<=(op:Int):=by omega
   clear K;go_wp2;go_quiet (fail);go_wp2;go_meet;exact⟨_,rfl,hz.out,jj B1.out _,N.out.drewN _,E⟩
 case rest=>
 obtain⟨I,rfl,ah,B2,K2,E2⟩:=hcut;clear N B1 c0 c1 c2 c3 c4 ab ae;have c4:=K2.out.five.c4;by_cases a0:H=0
 ·have E:Hid (bl I=bl nm++wj (bl z)++Gt op (bl ver)++Dw (archs.map bl)):=by
   have V:=M.out;rw[a0] at V;show _=_;rw[E2.out,ES.out,List.length_eq_zero_iff.1 V];simp[Dw]
  have a1:decide ((0:Int)<(H:Int))=false:=dF (by omega);have a2:decide (0<H)=false:=dF (by omega);clear a0;go_wp2;go_ret;exact⟨by rw[<-Hd E.out];rfl,B2.out⟩
 ·have a1:decide ((0:Int)<(H:Int))=true:=dT (by omega);have a2:decide (0<H)=true:=dT (by omega);obtain⟨J,hJ⟩:∃ J,ke (Lib.join (archs.map bl) (bl ⟨#[32]⟩))=J:=⟨_,rfl⟩
  have ag:J.size<=34000000:=by rw[<-hJ,kL];exact JL.out
  have E:Hid (bl (I++(⟨#[32,91]⟩++J++⟨#[93]⟩))=bl nm++wj (bl z)++Gt op (bl ver)++Dw (archs.map bl)):=by
   have V:=M.out;show _=_;simp only[kK];rw[E2.out,ES.out,<-hJ,lS];unfold Dw;rw[if_neg (by rw[List.isEmpty_iff,List.map_eq_nil_iff];intro e;rw[e] at V;simp at V;omega)];rfl
  have U:=iV (HJ.out _ B2.out);rw[hJ] at U;clear a0 hJ;go_wp2_with fail;refine U.out.mono ?_;rintro e w2 ⟨rfl,R⟩;have B3:Hid (Below w.heap.size w w2):=jc B2.out R;clear R;go_wp2;go_ret;exact⟨by rw[<-Hd E.out];rfl,B3.out⟩
def yl (g:List kP):LU:=Lib.join (g.map kP.text) [32,124,32]
theorem YA {t:kX}(h:t.okT):t.pl.text.length<=35000000:=by
 rw[Dx];have J:=Lr t.op (bl t.ver);have I:=SZ (t.archs.map bl) (fun x H=>by obtain⟨y,z,rfl⟩:=List.mem_map.1 H;rw[iX];exact h.archz y z) (by simpa using h.few);have K:(wj (bl t.qual)).length<=33:=by have:=h.qualz;rw[<-iX] at this;unfold wj;split<;>simp;omega
 have F:=h.nmz;have D:=h.verz;rw[<-iX] at F D;simp only[List.length_append,kX.pl];omega
theorem wW (A:Option Addr)(c:Nat)(gs:List jE)(hW:yk gs)(w:World)(hG:Gl w)(hr:uG w A gs)(hcp:Dq gs):Calls Tryz.prog 138 #[.slice A gs.length c] w fun e w'=>e=.returned (.tuple #[.string (ke (lO (gs.map jE.pl))),.int .i64 0])/\Below w.heap.size w w':=by
 obtain⟨i0,ag,am,ah,aj⟩:=info_parts sY;have HG:=iV hG;have HR:=iV hr;have HW:=iV hW;have aA:=iV hcp;have aE:=hW.few;have GL:Hid (∀ g∈gs,(yl g.pl).length<=3000000000):=by
  intro g M;have h1:=pZ [32,124,32] 35000000 (g.pl.map kP.text) (fun x hx=>by
   obtain⟨y,hy,rfl⟩:=List.mem_map.1 hx;obtain⟨t,ht,rfl⟩:=List.mem_map.1 hy;exact YA (hW.ok g M t ht))
  have h2:=hW.len g M;unfold yl jE.pl at *;simp only[List.length_map,List.length_cons,List.length_nil] at h1 |-;have:g.ts.length*(35000000+(0+1+1+1))<=64*35000003:=Nat.mul_le_mul h2 (by omega);omega
 clear hG hr hW hcp;go_in;go_wp2_with fail;refine(OG A c gs HW.out w HG.out HR.out).mono ?_;rintro e w0 ⟨rfl,al⟩;have ab:=iV al;clear al;go_wp2;go_loopw [5,18] (fun l i wr=>∃ (k:Nat) (O:List BA) (B:Option Addr) (cc:Nat),k<=gs.length/\l=.slice B k cc/\i=.int .i64 k/\Hid (wQ w0 wr O B k cc)/\Hid (O.map bl=(gs.take k).map (fun g=>yl g.pl))) (fun _ i _=>gs.length-(intOf i).toNat)
 case atStart=>exact⟨0,[],none,0,z0,rfl,rfl,wQ.nil w0,rfl⟩
 case round=>
  obtain⟨k,O,B,cc,hk,rfl,rfl,HS,HT⟩:=hrel;by_cases ae:k<gs.length
  ·obtain⟨g,M⟩:∃ g,gs[k]?=some g:=⟨_,gG ae⟩
   have N:=iV (HR.out.below (jc ab.out HS.out.bel));obtain⟨b,off,hA,he⟩:=N.out.row.one k _ (Du M) ae;have ap:=fun W=>jm (T:=83) (E:=198) (sz:=1) (c:=c) Tryz.underlying83 rfl Tryz.sizeOf198 hA ae W;simp only[Nat.mul_one] at ap;have D:=gM M;have au:=HW.out.len g D;have ax:=iV (N.out.grp g D);have aD:=iV (N.out.archs g D);have aq:=iV (HW.out.ok g D);have az:=iV (aA.out g D);have TK:Hid ((gs.take (k+1)).map (fun g=>yl g.pl)=(gs.take k).map (fun g=>yl g.pl)++[yl g.pl]):=by
    show _=_;obtain⟨ad,af⟩:=gS M;rw[tS ad,af];simp
   have ay:=iV (GL.out g D);obtain⟨gl,K⟩:∃ gl,g.ts.length=gl:=⟨_,rfl⟩
   rw[K] at he au;have ak:=iV K;clear M hA K N D;go_wp2_with fail;clear he ap;obtain⟨V,rfl⟩:∃ V:World,V=wr:=⟨_,rfl⟩
   go_loopw [8,24] (fun l q wr=>∃ (j:Nat) (Z:List BA) (C:Option Addr) (dc:Nat),j<=gl/\l=.slice C j dc/\q=.int .i64 j/\Hid (wQ V wr Z C j dc)/\Hid (Z.map bl=(g.ts.take j).map (fun t=>t.pl.text))) (fun _ q _=>gl-(intOf q).toNat)
   case atStart=>exact⟨0,[],none,0,z0,rfl,rfl,wQ.nil V,rfl⟩
   case round=>
    obtain⟨j,Z,C,dc,hj,rfl,rfl,U,HY⟩:=hrel;by_cases ai:j<gl
    ·have aB:Hid (j<g.ts.length):=by have:=ak.out;show _<_;omega
     obtain⟨t,ht⟩:∃ t,g.ts[j]?=some t:=⟨_,gG aB.out⟩
     obtain⟨b2,aF,an,I⟩:=(ax.out.below U.out.bel).elem Ju j t ht;have e0:=I 0 _ rfl;have e1:=I 1 _ rfl;have e2:=I 2 _ rfl;have e3:=I 3 _ rfl;have e4:=I 4 _ rfl;simp only[Nat.add_zero] at e0;have ao:=fun W=>jm (T:=198) (E:=196) (sz:=5) (n:=gl) (c:=g.gc) Tryz.underlying198 rfl Tryz.sizeOf196 an ai W;have aC:=iV (aq.out t (gM ht));have av:=iV (aD.out t (gM ht));have ar:=iV (az.out t (gM ht));have TY:Hid ((g.ts.take (j+1)).map (fun t=>t.pl.text)=(g.ts.take j).map (fun t=>t.pl.text)++[t.pl.text]):=by
      show _=_;obtain⟨ad,af⟩:=gS ht;rw[tS ad,af];simp
     have BA:Hid (Below V.heap.size V (wr.alloc (.cells #[.string t.nm,.int .i64 t.op,.string t.ver,.string t.qual,.slice t.aa t.archs.length t.ac] 196))):=U.out.bel.alloc U.out.bel.size _;have BW:Hid (Below w.heap.size w V):=jc ab.out HS.out.bel;clear ht I an;go_wp2_with fail;refine(Ta t aC.out _ (HG.out.below (jc BW.out BA.out)) (av.out.below BA.out) ar.out).mono ?_;rintro e R ⟨rfl,H⟩;obtain⟨X,hX⟩:∃ X,ke t.pl.text=X:=⟨_,rfl⟩
     rw[hX];have HX:Hid (bl X=t.pl.text):=by show _=_;rw[<-hX,lS]
     have S2:=iV ((U.out.below (bR.alloc lr (.cells #[.string t.nm,.int .i64 t.op,.string t.ver,.string t.qual,.slice t.aa t.archs.length t.ac] 196))).below H);clear H e0 e1 e2 e3 e4 ao hX;go_wp2_with (at_builtin;refine je _ rfl _ _ _ rfl V.heap.size 9 i0 _ 1 16 Tryz.underlying33 ag am ah aj rfl (by omega) (.slice C j dc) j _ rfl (S2.out.row.alloc _) (R.heap.size+1) (some ⟨R.heap.size,0,none⟩) 1 1 [.string X] rfl (oe R _ _) (by simp[Value.oneCell']) (by simp only[maxLen];omega) (by omega) (by simp;have:=S2.out.bel.size;omega) ?_;intro v1 w3 Y g1 a1);obtain⟨A1,c1,rfl⟩:=jk Y;have R1:=iV (S2.out.grow (x:=X) Y g1);clear Y g1 a1;go_wp2;go_roundw
     case rel=>exact⟨j+1,Z++[X],A1,c1,by omega,rfl,by go_num,R1,by show _=_;rw[TY.out,List.map_append,HY.out];simp[HX.out]⟩
     case measure=>simp[intOf];omega
    ·have EY:Hid (Z.map bl=g.pl.map kP.text):=by
      show _=_;rw[HY.out,tL (by rw[ak.out];omega)];unfold jE.pl;simp
     have F:=U.out.len;have J:=uI U.out.row;obtain⟨X,hX⟩:∃ X,ke (Lib.join (Z.map bl) (bl ⟨#[32,124,32]⟩))=X:=⟨_,rfl⟩
     have HX:Hid (bl X=yl g.pl):=by show _=_;rw[<-hX,lS,EY.out];rfl
     have HJ:=iV (fun (_:Unit)=>ye C dc Z ⟨#[32,124,32]⟩ wr (by rw[F];exact jL U.out.row) (by omega) (by omega) (by rw[EY.out];have:=ay.out;unfold yl at this;rw[show bl ⟨#[32,124,32]⟩=[32,124,32] from rfl];omega));rw[F,hX] at HJ;have SO:=iV (HS.out.below U.out.bel);clear J F hX;go_wp2_with fail;refine(HJ.out ()).mono ?_;rintro e R ⟨rfl,H⟩;have S2:=iV (SO.out.below H);clear H;go_wp2_with (at_builtin;refine je _ rfl _ _ _ rfl w0.heap.size 9 i0 _ 1 16 Tryz.underlying33 ag am ah aj rfl (by omega) (.slice B k cc) k _ rfl (S2.out.row.alloc _) (R.heap.size+1) (some ⟨R.heap.size,0,none⟩) 1 1 [.string X] rfl (oe R _ _) (by simp[Value.oneCell']) (by simp only[maxLen];omega) (by omega) (by simp;have:=S2.out.bel.size;omega) ?_;intro v1 w3 Y g1 a1);obtain⟨A1,c1,rfl⟩:=jk Y;have R1:=iV (S2.out.grow (x:=X) Y g1);clear Y g1 a1;go_wp2;go_roundw
     case rel=>exact⟨k+1,O++[X],A1,c1,by omega,rfl,by go_num,R1,by show _=_;rw[TK.out,List.map_append,HT.out];simp[HX.out]⟩
     case measure=>simp[intOf];omega
  ·have EX:Hid (O.map bl=(gs.map jE.pl).map yl):=by
    show _=_;rw[HT.out,tL (by omega)];simp
   have F:=HS.out.len;have J:=uI HS.out.row;have JL:Hid ((Lib.join (O.map bl) (bl ⟨#[44,32]⟩)).length<=140737488355328):=by
    have h1:=pZ (bl ⟨#[44,32]⟩) 3000000000 (O.map bl) (fun y hy=>by
     rw[EX.out] at hy;obtain⟨z,hz,rfl⟩:=List.mem_map.1 hy;obtain⟨g,M,rfl⟩:=List.mem_map.1 hz;exact GL.out g M)
    have h2:(bl ⟨#[44,32]⟩:LU).length=2:=rfl;rw[h2,List.length_map,F] at h1;show _<=_;omega
   have HJ:=iV (fun (_:Unit)=>ye B cc O ⟨#[44,32]⟩ wr (by rw[F];exact jL HS.out.row) (by omega) (by omega) JL.out);rw[F] at HJ;clear J JL F;go_wp2_with fail;refine(HJ.out ()).mono ?_;rintro e R ⟨rfl,H⟩;have ET:Hid (ke (Lib.join (O.map bl) (bl ⟨#[44,32]⟩))=ke (lO (gs.map jE.pl))):=by show _=_;rw[EX.out];rfl
   have B2:Hid (Below w.heap.size w R):=jc (jc ab.out HS.out.bel) H;clear H;go_wp2;go_ret2;exact⟨by rw[<-ET.out];rfl,B2.out⟩
def Dy (s:BA)(ok:Bool)(w:World)(e:Ending)(w':World):Prop:=
 ∃ (out:BA) (b:Bool),e=.returned (.tuple #[.string out,.bool b])/\Below w.heap.size w w'/\(s.size≠0->(b=true/\out=s↔ok=true))
theorem Gu (h:mB l=none):pX l=false:=by unfold pX;rw[h];simp
theorem Gv {L:List (List kP)}(h:mB l=some L)(h0:l≠[]):pX l=decide (lO L=l):=by
 unfold pX;rw[h];simp[h0]
theorem Gw (h:mq l=none):pW l=false:=by unfold pW;rw[h];simp
theorem Gx {L:List mo}(h:mq l=some L)(h0:l≠[]):pW l=decide (mf L=l):=by
 unfold pW;rw[h];simp[h0]
theorem zu {s:BA}:ke l=s↔l=bl s:=by
 constructor
 ·intro h;rw[<-h,lS]
 ·intro h;rw[h,oQ]
theorem VQ {s:BA}(h:s.size≠0):bl s≠[]:=by intro e;apply h;rw[<-iX,e];rfl
theorem yk.nil:yk []:=yk.of rx.nil
theorem uG.nil (w:World):uG w none []:=⟨Rd.nil _ _ _,by simp,by simp⟩
theorem Dz (s:BA)(w:World)(hG:Gl w)(hs:s.size<=1000000):Calls Tryz.prog 111 #[.int .i64 1,.string s] w (Dy s (pX (bl s)) w):=by
 have U:=iV hG;clear hG;have B0:Hid (Below w.heap.size w (w.alloc (.cells #[.string ⟨#[]⟩,.int .i64 0,.int .i64 0] 132))):=bR.alloc lr _;have K0:Hid (jh (w.alloc (.cells #[.string ⟨#[]⟩,.int .i64 0,.int .i64 0] 132)) w.heap.size [.string ⟨#[]⟩,.int .i64 0,.int .i64 0]):=jh.new w _ _;go_in;go_wp2_with fail;refine(Ds s _ (U.out.below B0.out) (by omega)).mono ?_;rintro e w1 ⟨A,n,c,f,a,z,rfl,H,y⟩;have B1:=iV (jc B0.out H);have J:=iV (K0.out.below H);have r0:=J.out.cell 0 _ rfl;have r1:=J.out.cell 1 _ rfl;have r2:=J.out.cell 2 _ rfl;have ae:=J.out.free 0 (by simp);have ad:=J.out.free 1 (by simp);have ac:=J.out.free 2 (by simp);have ab:w.heap.size<w1.heap.size:=J.out.sz;have aa:¬ w.heap.size=w1.heap.size:=by omega
 have KS:=iV (((J.out.set 0 (by simp) (.string f)).set 1 (by simp) (.int .i64 a)).set 2 (by simp) (.int .i64 z));have K3:=iV (KS.out.alloc (.cells #[.string f,.int .i64 a,.int .i64 z] 132));have BS:=iV (jb (j:=2) (jb (j:=1) (jb (j:=0) B1.out lr (.string f)) lr (.int .i64 a)) lr (.int .i64 z));have R:=iV (BS.out.alloc BS.out.size (.cells #[.string f,.int .i64 a,.int .i64 z] 132));cases hp:mB (bl s) with
 | none=>
  rw[hp] at y;obtain⟨hc,rfl,rfl⟩:=y;have O:=iV (Gu hp);have af:(z==0)=false:=by simp[hc]
  clear hp hc H;unfold nC;go_wp2_with fail;refine(wW none c [] yk.nil _ (U.out.below R.out) (uG.nil _) (fun _ h=>by simp at h)).mono ?_;rintro e w4 ⟨rfl,D⟩;have d2:=(K3.out.below D).cell 2 _ rfl;have V:=iV (jc R.out D);clear D;go_wp2;go_ret2;exact⟨_,false,rfl,V.out,fun _=>by rw[O.out];simp⟩
 | some L=>
  rw[hp] at y;obtain⟨rfl,Z,K,M⟩:=y;have F:=wV hp (by rw[iX];exact hs);rw[<-K] at F;have HW:=iV (yk.of F);have O:Hid (s.size≠0->(ke (lO (Z.map jE.pl))=s↔pX (bl s)=true)):=fun h0=>by rw[Gv hp (VQ h0),K,decide_eq_true_iff];exact zu
  have I:w.heap.size<(w.alloc (.cells #[.string ⟨#[]⟩,.int .i64 0,.int .i64 0] 132)).heap.size:=by simp
  have N:=iV ((((M.kept I (jO (j:=0) (.string f))).kept I (jO (j:=1) (.int .i64 a))).kept I (jO (j:=2) (.int .i64 0))).below (bR.alloc lr (.cells #[.string f,.int .i64 a,.int .i64 0] 132)));obtain rfl:=M.len;have Y:=wW A c Z HW.out _ (U.out.below R.out) N.out.ok N.out.cap;obtain⟨X,hX⟩:∃ X,ke (lO (Z.map jE.pl))=X:=⟨_,rfl⟩
  rw[hX] at Y O;clear hp K M F H hX I;unfold nC;go_wp2_with fail;refine Y.mono ?_;rintro e w4 ⟨rfl,D⟩;have d2:=(K3.out.below D).cell 2 _ rfl;have V:=iV (jc R.out D);clear D Y;go_wp2;go_ret2;exact⟨X,true,rfl,V.out,fun h=>by have:=O.out h;simpa using this⟩
theorem DA (fmt:Int)(h1:fmt≠1)(h2:fmt≠2)(s:BA)(w:World)(hG:QN w)(hs:s.size<=1000000):Calls Tryz.prog 111 #[.int .i64 fmt,.string s] w (Dy s (pW (bl s)) w):=by
 have O:=iV hG;clear hG;have q1:(fmt==1)=false:=by simp[h1]
 have q2:(fmt==2)=false:=by simp[h2]
 clear h1 h2;have B0:Hid (Below w.heap.size w (w.alloc (.cells #[.string ⟨#[]⟩,.int .i64 0,.int .i64 0] 132))):=bR.alloc lr _;have K0:Hid (jh (w.alloc (.cells #[.string ⟨#[]⟩,.int .i64 0,.int .i64 0] 132)) w.heap.size [.string ⟨#[]⟩,.int .i64 0,.int .i64 0]):=jh.new w _ _;go_in;go_wp2_with fail;refine(Dj s _ (O.out.below B0.out) (by omega)).mono ?_;rintro e w1 ⟨A,n,c,f,a,z,rfl,H,y⟩;have B1:=iV (jc B0.out H);have J:=iV (K0.out.below H);have r0:=J.out.cell 0 _ rfl;have r1:=J.out.cell 1 _ rfl;have r2:=J.out.cell 2 _ rfl;have ae:=J.out.free 0 (by simp);have ad:=J.out.free 1 (by simp);have ac:=J.out.free 2 (by simp);have aa:w.heap.size<w1.heap.size:=J.out.sz;have Z:¬ w.heap.size=w1.heap.size:=by omega
 have KS:=iV (((J.out.set 0 (by simp) (.string f)).set 1 (by simp) (.int .i64 a)).set 2 (by simp) (.int .i64 z));have Y:=iV (KS.out.alloc (.cells #[.string f,.int .i64 a,.int .i64 z] 132));have BS:=iV (jb (j:=2) (jb (j:=1) (jb (j:=0) B1.out lr (.string f)) lr (.int .i64 a)) lr (.int .i64 z));have N:=iV (BS.out.alloc BS.out.size (.cells #[.string f,.int .i64 a,.int .i64 z] 132));cases hp:mq (bl s) with
 | none=>
  rw[hp] at y;obtain⟨hc,rfl,rfl⟩:=y;have M:=iV (Gw hp);have af:(z==0)=false:=by simp[hc]
  clear hp hc H;unfold nC;go_wp2_with fail;refine(wR none c [] (by simp) (by simp) _ (O.out.1.below N.out) (Rd.nil _ _ _)).mono ?_;rintro e w4 ⟨rfl,D⟩;have d2:=(Y.out.below D).cell 2 _ rfl;have R:=iV (jc N.out D);clear D;go_wp2;go_ret2;exact⟨_,false,rfl,R.out,fun _=>by rw[M.out];simp⟩
 | some L=>
  rw[hp] at y;obtain⟨rfl,rfl,K⟩:=y;obtain⟨F,ab⟩:=uB _ _ _ _ (by omega) hp;have M:Hid (s.size≠0->(ke (mf L)=s↔pW (bl s)=true)):=fun h0=>by rw[Gx hp (VQ h0),decide_eq_true_iff];exact zu
  have I:w.heap.size<(w.alloc (.cells #[.string ⟨#[]⟩,.int .i64 0,.int .i64 0] 132)).heap.size:=by simp
  have V:=iV (jp (jS (jS (jS K I (jO (j:=0) (.string f))) I (jO (j:=1) (.int .i64 a))) I (jO (j:=2) (.int .i64 0))) (bR.alloc lr (.cells #[.string f,.int .i64 a,.int .i64 0] 132)));have U:=wR A c L F (by omega) _ (O.out.1.below N.out) (jL V.out);obtain⟨X,hX⟩:∃ X,ke (mf L)=X:=⟨_,rfl⟩
  rw[hX] at U M;clear hp K F H hX I;unfold nC;go_wp2_with fail;refine U.mono ?_;rintro e w4 ⟨rfl,D⟩;have d2:=(Y.out.below D).cell 2 _ rfl;have R:=iV (jc N.out D);clear D U;go_wp2;go_ret2;exact⟨X,true,rfl,R.out,fun h=>by have:=M.out h;simpa using this⟩
def tA (fmt:Int)(bars:Bool):Nat:=if fmt=2 then 64 else if fmt=3/\bars=true then 0 else 1
def nw (fmt:Int)(bars:Bool)(f:LU->Bool)(l:List BA):Bool:=decide (l.length<=tA fmt bars)&&l.all (fun x=>f (bl x))
theorem Ls (fmt:Int)(bars:Bool):tA fmt bars<=64:=by unfold tA;(repeat' split)<;>omega
theorem VR {f:LU->Bool}{l:List BA}(h:l[k]?=some x)(h0:(l.take k).all (fun x=>f (bl x))=true)(hx:f (bl x)=true):(l.take (k+1)).all (fun x=>f (bl x))=true:=by
 obtain⟨z,y⟩:=gS h;rw[tS z,y,List.all_append,h0];simp[hx]
theorem VS {f:LU->Bool}{l:List BA}(h:l[k]?=some x)(hx:f (bl x)=false):l.all (fun x=>f (bl x))=false:=by
 cases ha:l.all (fun x=>f (bl x)) with
 | false=>rfl
 | true=>
  rw[List.all_eq_true] at ha;have:=ha x (gM h);rw[hx] at this;cases this
theorem tB (fmt:Int)(bars:Bool)(f:LU->Bool)(hf:f []=false)(A:Option Addr)(c:Nat)(l:List BA)(w:World)(hG:QN w)(hr:Rd w 1 A l.length (strCells l))(hn:l.length<=4294967280)
  (hC:∀ x∈l,∀ W,QN W->Calls Tryz.prog 111 #[.int .i64 fmt,.string x] W (Dy x (f (bl x)) W)):Calls Tryz.prog 69 #[.int .i64 fmt,.slice A l.length c,.bool bars] w fun e w'=>e=.returned (.bool (nw fmt bars f l))/\Below w.heap.size w w':=by
 have HG:=iV hG;have HR:=iV hr;have HC:=iV hC;have HF:=iV hf;clear hG hr hC hf;obtain⟨b2,D⟩:∃ b2,(fmt==2)=b2:=⟨_,rfl⟩
 obtain⟨b3,N⟩:∃ b3,(fmt==3)=b3:=⟨_,rfl⟩
 have J:Hid (tA fmt bars=if b2 then 64 else if b3&&bars then 0 else 1):=by
  show _=_;unfold tA;rw[<-D,<-N];simp
 have X:=Ls fmt bars;obtain⟨m,hm⟩:∃ m,tA fmt bars=m:=⟨_,rfl⟩
 rw[hm] at X J;have R:=iV hm;clear hm;go_in;go_upto_block 0 with(fail)
 go_cut [7] (fun v wx=>v=.int .i64 m/\w=wx)
 case first=>
  cases b2 with
  | true=>
   have E:Hid (m=64):=J.out;go_wp2;go_meet;exact⟨by rw[E.out];rfl,rfl⟩
  | false=>
   cases b3 with
   | true=>
    cases bars with
    | true=>
     have E:Hid (m=0):=J.out;go_wp2;go_meet;exact⟨by rw[E.out];rfl,rfl⟩
    | false=>
     have E:Hid (m=1):=J.out;go_wp2;go_meet;exact⟨by rw[E.out];rfl,rfl⟩
   | false=>
    have E:Hid (m=1):=J.out;go_wp2;go_meet;exact⟨by rw[E.out];rfl,rfl⟩
 case rest=>
 obtain⟨rfl,rfl⟩:=hcut;clear D N J;by_cases U:m<l.length
 ·have E:Hid (nw fmt bars f l=false):=by show _=_;unfold nw;rw[R.out,dF];rfl
  have d1:decide ((m:Int)<(l.length:Int))=true:=dT (by omega);have d2:decide (m<l.length)=true:=dT U;go_wp2;go_ret;exact⟨iW E.out.symm,bR⟩
 ·have E0:Hid (nw fmt bars f l=l.all (fun x=>f (bl x))):=by show _=_;unfold nw;rw[R.out,dT];rfl
  have d1:decide ((m:Int)<(l.length:Int))=false:=dF (by omega);have d2:decide (m<l.length)=false:=dF U;go_wp2_with fail;clear d1 d2;go_loopw [6,27] (fun s6 i wr=>∃ k:Nat,s6=.bool false/\i=.int .i64 k/\k<=l.length/\Hid (Below w.heap.size w wr)/\Hid ((l.take k).all (fun x=>f (bl x))=true)) (fun _ i _=>l.length-(intOf i).toNat)
  case atStart=>exact⟨0,rfl,rfl,z0,bR,rfl⟩
  case round=>
   obtain⟨k,rfl,rfl,hk,HB,K⟩:=hrel;by_cases M:k<l.length
   ·obtain⟨x,O⟩:∃ x,l[k]?=some x:=⟨_,gG M⟩
    obtain⟨b,off,hA,he⟩:=(HR.out.below HB.out).str k x O;have aa:=fun W=>jm (T:=33) (E:=9) (sz:=1) (c:=c) Tryz.underlying33 rfl Tryz.sizeOf9 hA M W;simp only[Nat.mul_one] at aa;have hW:=HC.out x (gM O);have NY:Hid (f (bl x)=true->(l.take (k+1)).all (fun x=>f (bl x))=true):=fun h=>VR O K.out h;have NN:Hid (f (bl x)=false->nw fmt bars f l=false):=fun h=>by rw[E0.out];exact VS O h
    clear O hA;go_wp2_with fail;refine(hW _ (HG.out.below HB.out)).mono ?_;rintro e w2 ⟨H,ok,rfl,D,y⟩;have Z:=iV (jc HB.out D);clear D;by_cases Y:x.size=0
    ·have V:x.toList=[]:=by rw[iY,kw x Y]
     have F:x.toList.isEmpty=true:=by rw[V];rfl
     have E:Hid (nw fmt bars f l=false):=NN.out (by rw[kw x Y];exact HF.out);clear y;go_wp2;go_ret;exact⟨iW E.out.symm,Z.out⟩
    have F:x.toList.isEmpty=false:=by rw[iY,jB];exact dF Y
    have V:¬ x.toList=[]:=by intro h;rw[h] at F;simp at F
    have z:=y Y;cases ok with
    | false=>
     have E:Hid (nw fmt bars f l=false):=NN.out (by cases hv:f (bl x) with
      | false=>rfl
      | true=>have:=z.2 hv;cases this.1)
     clear y z;go_wp2;go_ret;exact⟨iW E.out.symm,Z.out⟩
    | true=>
     by_cases I:H=x
     ·have HN:=iV (NY.out (z.1 ⟨rfl,I⟩));subst I;clear y z;go_wp2;go_roundw
      case rel=>exact⟨k+1,rfl,by go_num,by omega,Z,HN⟩
      case measure=>simp[intOf];omega
     ·have E:Hid (nw fmt bars f l=false):=NN.out (by cases hv:f (bl x) with
       | false=>rfl
       | true=>exact absurd (z.2 hv).2 I)
      have ac:(H.toList != x.toList)=true:=by rw[bne,mI,dF I];rfl
      have ab:(H.toList==x.toList)=false:=by rw[mI,dF I]
      clear y z I;go_wp2;go_ret;exact⟨iW E.out.symm,Z.out⟩
   ·have E:Hid (nw fmt bars f l=true):=by show _=_;rw[E0.out];have:=K.out;rw[tL (by omega)] at this;exact this
    go_wp2;go_ret;exact⟨iW E.out.symm,HB.out⟩
end
section
open Go.RowKit
def Iy (t:kX):jf:=⟨t.nm,t.op,t.ver⟩
theorem Mw (t:kX):vb t.pl=Iy t:=by unfold vb Iy kX.pl;simp only;rw[oQ,oQ]
def BN (bar:Bool)(g:List kP):Bool:=(bar&&decide (g.length≠1))||g.any fun t=>!t.qual.isEmpty || !t.archs.isEmpty
theorem Af {L:List (List kP)}{g:List kP}(hg:g∈L)(h:BN bar g=true):wq bar L=([],11):=by
 have e:wq bar L=if L.any (BN bar)=true then ([],11) else (L.map fun g=>⟨bar,g.map vb⟩,0):=rfl
 rw[e,if_pos (List.any_eq_true.2 ⟨g,hg,h⟩)]
theorem WS {L:List (List kP)}(h:∀ g∈L,BN bar g=false):wq bar L=(L.map fun g=>⟨bar,g.map vb⟩,0):=by
 have e:wq bar L=if L.any (BN bar)=true then ([],11) else (L.map fun g=>⟨bar,g.map vb⟩,0):=rfl
 rw[e,if_neg (by rw[Bool.not_eq_true,List.any_eq_false];intro g y;rw[Bool.not_eq_true];exact h g y)]
theorem WT {g:List kP}(h:(bar&&decide (g.length≠1))=true):BN bar g=true:=by unfold BN;rw[h];rfl
theorem Iz {g:List kP}{t:kP}(ht:t∈g)(h:(!t.qual.isEmpty || !t.archs.isEmpty)=true):BN bar g=true:=by
 unfold BN;rw[List.any_eq_true.2 ⟨t,ht,h⟩,Bool.or_true]
theorem YZ {g:List kP}(h:(bar&&decide (g.length≠1))=false)(ht:∀ t∈g,(!t.qual.isEmpty || !t.archs.isEmpty)=false):BN bar g=false:=by
 unfold BN;rw[h,Bool.false_or,List.any_eq_false];intro t y;rw[ht t y];simp
theorem Nw.start (w:World)(bar:Bool)(t:TypeId):Nw w (w.alloc (.cells #[.bool bar,.slice none 0 0] t)) w.heap.size (w.heap.size+1) bar none 0 0 []:=
 ⟨bR.alloc lr _,jh.new w [.bool bar,.slice none 0 0] t,World.ownsRow_nil _ _ _ _,rfl,lr,Nat.lt_succ_self _,by simp⟩
theorem BO (bar:Bool)(A:Option Addr)(c:Nat)(gs:List jE)(w:World)(hr:uG w A gs)(hl:gs.length<=64)(hz:∀ g∈gs,g.ts.length<=64)(hsm:∀ g∈gs,∀ t∈g.ts,t.nm.size<=64/\t.ver.size<=64)(hcp:Dq gs):Calls Tryz.prog 89 #[.slice A gs.length c,.bool bar] w (nA (wq bar (gs.map jE.pl)) w):=by
 obtain⟨i0,hi,aG,av,az⟩:=info_parts sr;obtain⟨i1,hj,aI,aA,ay⟩:=info_parts Ae;have HR:=iV hr;have HZ:=iV hz;have aF:=iV hcp;have aD:=iV hsm;clear hr hz hcp hsm;go_in;go_wp2;go_loopw [6,14] (fun s6 aJ wr=>∃ (k:Nat) (O:Option Addr) (oc:Nat) (ds:List jd),s6=.slice O k oc/\aJ=.int .i64 k/\k<=gs.length/\Hid (∀ g∈gs.take k,BN bar g.pl=false)/\Hid (ds.map jd.pl=(gs.take k).map fun g=>⟨bar,g.pl.map vb⟩)/\Hid (pt w wr ds O k oc)) (fun _ i _=>gs.length-(intOf i).toNat)
 case atStart=>exact⟨0,none,0,[],rfl,rfl,z0,by simp[Hid],rfl,pt.start w⟩
 case round=>
  obtain⟨k,O,oc,ds,rfl,rfl,hk,HN,HO,D0⟩:=hrel;by_cases af:k<gs.length
  ·obtain⟨g,M⟩:∃ g,gs[k]?=some g:=⟨_,gG af⟩
   have ag:=iV (HR.out.below D0.out.bel);obtain⟨b,off,hA,he⟩:=ag.out.row.one k _ (Du M) af;have ar:=fun W=>jm (T:=83) (E:=198) (sz:=1) (c:=c) Tryz.underlying83 rfl Tryz.sizeOf198 hA af W;simp only[Nat.mul_one] at ar;have D:=gM M;have ah:Hid (g.pl∈gs.map jE.pl):=List.mem_map.2 ⟨g,D,rfl⟩;have aC:=iV (ag.out.grp g D);have aj:=iV (jI M);have aB:=iV (aF.out g D);have ax:=HZ.out g D;obtain⟨gl,R⟩:∃ gl,g.ts.length=gl:=⟨_,rfl⟩
   rw[R] at he ax;have Z:=iV R;clear M hA R ag D;obtain⟨lb,H⟩:∃ lb,(bar&&decide (g.pl.length≠1))=lb:=⟨_,rfl⟩
   have an:g.pl.length=gl:=by unfold jE.pl;rw[List.length_map];exact Z.out
   have ak:=iV H;rw[an] at H;have ao:((gl:Int) != 1)=decide (gl≠1):=by rw[bI];simp[bne];omega
   have ad:=iV ao;clear ao an;cases lb
   rotate_left
   ·have E:=iV (Af (bar:=bar) ah.out (WT ak.out));have hb:bar=true:=by cases bar;simp at H;rfl
    subst hb;have q1:((gl:Int) != 1)=true:=by rw[ad.out];simpa using H
    clear H;go_wp2;go_ret2;exact uo (by rw[E.out]) (by decide) D0.out.bel
   have q1:bar=false\/bar=true/\((gl:Int) != 1)=false:=by
    cases bar with
    | false=>exact .inl rfl
    | true=>right;refine⟨rfl,?_⟩;rw[ad.out];simpa using H
   clear H ad;go_upto_region 5 with(fail)
   clear he ar;go_cut [23] (fun s wx=>s=.bool false/\wr=wx)
   case first=>
    rcases q1 with rfl | ⟨rfl,q1⟩
    ·go_wp2;go_meet;exact⟨rfl,by trivial⟩
    ·go_wp2;go_meet;exact⟨rfl,by trivial⟩
   case rest=>
   obtain⟨rfl,rfl⟩:=hcut;clear q1;obtain⟨V,rfl⟩:∃ V:World,V=wr:=⟨_,rfl⟩
   have A0:=iV (Nw.start V bar 75);go_wp2;go_loopw [28] (fun i wx=>∃ (j cc:Nat) (G:Option Addr),j<=gl/\i=.int .i64 j/\Hid (∀ t∈g.ts.take j,(!t.pl.qual.isEmpty || !t.pl.archs.isEmpty)=false)/\Hid (Nw V wx V.heap.size (V.heap.size+1) bar G j cc ((g.ts.take j).map Iy))) (fun i _=>gl-(intOf i).toNat)
   case atStart=>exact⟨0,0,none,z0,rfl,by simp[Hid],A0⟩
   case round=>
    clear A0;obtain⟨j,cc,G,aP,rfl,HT,U⟩:=hrel;by_cases al:j<gl
    ·have aH:Hid (j<g.ts.length):=by have:=Z.out;show _<_;omega
     obtain⟨t,ht⟩:∃ t,g.ts[j]?=some t:=⟨_,gG aH.out⟩
     obtain⟨b2,aM,ap,I⟩:=(aC.out.below U.out.bel).elem Ju j t ht;have e0:=I 0 _ rfl;have e1:=I 1 _ rfl;have e2:=I 2 _ rfl;have e3:=I 3 _ rfl;have e4:=I 4 _ rfl;simp only[Nat.add_zero] at e0;have aN:=fun W=>jm (T:=198) (E:=196) (sz:=5) (n:=gl) (c:=g.gc) Tryz.underlying198 rfl Tryz.sizeOf196 ap al W;have am:Hid (t.pl∈g.pl):=List.mem_map.2 ⟨t,gM ht,rfl⟩;have aq:=iV (jI ht);have aO:=aB.out t (gM ht);obtain⟨W2,Y⟩:∃ W2,wr.alloc (.cells #[.string t.nm,.int .i64 t.op,.string t.ver,.string t.qual,.slice t.aa t.archs.length t.ac] 196)=W2:=⟨_,rfl⟩
     have B2:Hid (Below wr.heap.size wr W2):=by rw[<-Y];exact bR.alloc lr _
     have K2:Hid (jh W2 wr.heap.size t.cells):=by show jh _ _ _;rw[<-Y];exact jh.new wr t.cells _
     have k0:=K2.out.cell 0 _ rfl;have k1:=K2.out.cell 1 _ rfl;have k2:=K2.out.cell 2 _ rfl;have k3:=K2.out.cell 3 _ rfl;have k4:=K2.out.cell 4 _ rfl;have N:=iV (U.out.step B2.out);clear ht ap I;obtain⟨qb,aK⟩:∃ qb,t.qual.toList.isEmpty=qb:=⟨_,rfl⟩
     have ae:Hid (t.pl.qual.isEmpty=qb):=by show(bl t.qual).isEmpty=_;rw[<-iY];exact aK
     have ab:Hid (t.pl.archs.isEmpty=decide (t.archs.length=0)):=by show(t.archs.map bl).isEmpty=_;cases t.archs<;>simp
     cases qb
     ·have E:=iV (Af (bar:=bar) ah.out (Iz am.out (by rw[ae.out];rfl)));go_wp2;go_ret2;exact uo (by rw[E.out]) (by decide) (jc (jc D0.out.bel U.out.bel) B2.out)
     by_cases h0:0<t.archs.length
     ·have d0:decide ((0:Int)<(t.archs.length:Int))=true:=dT (by omega);have d1:decide (0<t.archs.length)=true:=dT h0;have E:=iV (Af (bar:=bar) ah.out (Iz am.out (by rw[ab.out,dF];simp)));go_wp2;go_ret2;exact uo (by rw[E.out]) (by decide) (jc (jc D0.out.bel U.out.bel) B2.out)
     have d0:decide ((0:Int)<(t.archs.length:Int))=false:=dF (by omega);have d1:decide (0<t.archs.length)=false:=dF h0;have EG:Hid ((!t.pl.qual.isEmpty || !t.pl.archs.isEmpty)=false):=by show _=_;rw[ae.out,ab.out,dT];rfl
     clear ae ab;have X:=iV N.out.own;have m1:=N.out.box.cell 1 _ rfl;have aR:=N.out.sz;have FB:Hid (some V.heap.size≠(Value.slice G j cc).ownBlock):=by intro e;have:=(X.out.lt _ e.symm).1;omega
     have aS:¬ V.heap.size=wr.heap.size:=by have:=U.out.sz;omega
     have aL:¬ wr.heap.size=V.heap.size:=by omega
     have au:=iV Y;clear Y;go_upto_region 11 with(fail)
     rw[au.out]
     go_wp2_with (
      at_builtin
      refine je _ rfl _ _ _ rfl (V.heap.size+1) 78 i1 _ 3 40 Tryz.underlying34 hj aI aA ay rfl (by omega) (.slice G j cc) j _ rfl (X.out.alloc _) (W2.heap.size+1) (some ⟨W2.heap.size,0,none⟩) 1 1 [.string t.nm,.int .i64 t.op,.string t.ver] rfl (AD W2 _ _ _ _) (by simp[Value.oneCell']) (by simp only[maxLen];omega) (by omega) (by simp;omega) ?_;intro v1 w6 z J K;obtain⟨G1,c1,rfl⟩:=jk z;have KB:=iV ((N.out.box.alloc (.cells #[.string t.nm,.int .i64 t.op,.string t.ver] 78)).grownR J FB.out);have aU:=KB.out.cell 1 _ rfl;have aQ:=KB.out.free 1 (by simp))
     have N1:=iV (N.out.app _ (x:=Iy t) z J);clear z J K;go_wp2;go_roundw
     case rel=>exact⟨j+1,c1,G1,by omega,by go_num,iV (fun y F=>by
      rw[aq.out] at F;rcases List.mem_append.1 F with F | F
      ·exact HT.out y F
      ·rw[List.mem_singleton.1 F];exact EG.out),by rw[aq.out,List.map_append];exact N1⟩
     case measure=>simp[intOf];omega
    ·obtain rfl:j=gl:=by omega
     have ai:Hid ((g.ts.take j).map Iy=g.pl.map vb):=by
      show _=_;rw[tL (by have:=Z.out;omega)];unfold jE.pl;rw[List.map_map];exact List.map_congr_left fun t _=>(Mw t).symm
     have EG:Hid (BN bar g.pl=false):=by
      refine YZ ak.out (fun t ht=>?_);obtain⟨y,F,rfl⟩:=List.mem_map.1 ht;exact HT.out y (by rw[tL (by have:=Z.out;omega)];exact F)
     generalize (g.ts.take j).map Iy=LL at *;have D1:=iV (D0.out.below U.out.bel);have X:=iV D1.out.row;have m0:=U.out.box.cell 0 _ rfl;have m1:=U.out.box.cell 1 _ rfl;have aE:=iV D0.out.blk_lt;have aT:=D1.out.bel.size
     go_wp2_with (
      at_builtin
      refine je _ rfl _ _ _ rfl w.heap.size 75 i0 _ 2 32 Tryz.underlying30 hi aG av az rfl (by omega) (.slice O k oc) k _ rfl (X.out.alloc _) (wr.heap.size+1) (some ⟨wr.heap.size,0,none⟩) 1 1 [.bool bar,.slice G j cc] rfl (tC wr _ _ _) (by simp[Value.oneCell']) (by simp only[maxLen];omega) (by omega) (by simp;omega) ?_;intro v1 w6 z J K;obtain⟨O1,c1,rfl⟩:=jk z)
     have N1:Hid (pt w w6 (ds++[⟨bar,G,cc,LL⟩]) O1 (k+1) c1):=D1.out.grow U.out.dep (by have:=D0.out.bel.size;omega) (fun x hx g M=>by have:=aE.out x hx g M;omega) (by rw[U.out.cells];exact z) J;clear z J K;go_wp2;go_roundw
     case rel=>exact⟨k+1,O1,c1,_,rfl,by go_num,by omega,iV (fun y F=>by
      rw[aj.out] at F;rcases List.mem_append.1 F with F | F
      ·exact HN.out y F
      ·rw[List.mem_singleton.1 F];exact EG.out),by show _=_;rw[aj.out,List.map_append,List.map_append,HO.out];congr 1;simp[jd.pl,ai.out],N1⟩
     case measure=>simp[intOf];omega
  ·have E:Hid (wq bar (gs.map jE.pl)=(ds.map jd.pl,0)):=by
    show _=_;rw[WS,HO.out,tL (by omega),List.map_map];rfl;intro g M;obtain⟨x,hx,rfl⟩:=List.mem_map.1 M;exact HN.out x (by rw[tL (by omega)];exact hx)
   have EF:Hid (WR (ds.map jd.pl)):=by
    rw[HO.out,tL (by omega)];refine⟨by rw[List.length_map];exact hl,fun d hd=>?_⟩;obtain⟨g,M,rfl⟩:=List.mem_map.1 hd;have:=HZ.out g M;refine⟨?_,fun a ha=>?_⟩
    ·show(g.pl.map vb).length<=64;rw[List.length_map];unfold jE.pl;rw[List.length_map];exact this
    ·obtain⟨t,ht,rfl⟩:=List.mem_map.1 ha;obtain⟨y,F,rfl⟩:=List.mem_map.1 ht;rw[Mw];exact aD.out g M y F
   go_wp2;go_ret2;exact yK E.out D0.out EF.out
theorem Fd {s:BA}{b:Bool}(h:s.toList.isEmpty=b):(bl s).isEmpty=b:=by rw[<-iY];exact h
theorem GI (bar:Bool)(T:iZ)(w:World)(hr:Kh w T)(hn:T.cnt<=64)(hgd:lT T):Calls Tryz.prog 90 #[T.val,.bool bar] w (nA (sk bar T.pl) w):=by
 obtain⟨i0,hi,aP,aB,aH⟩:=info_parts sr;obtain⟨i1,hj,aR,aI,aG⟩:=info_parts Ae;have HR:=iV hr;have ai:=Fb hn;obtain⟨I,ae⟩:∃ I,w.alloc (.cells #[.string T.op,.string T.nm,.int .i64 T.aop,.string T.ver,.slice T.ka T.kids.length T.kc] 86)=I:=⟨_,rfl⟩
 have B0:Hid (Below w.heap.size w I):=by rw[<-ae];exact bR.alloc lr _
 have K0:Hid (jh I w.heap.size T.cells):=by rw[<-ae];exact jh.new w T.cells _
 have k0:=K0.out.cell 0 _ rfl;have k1:=K0.out.cell 1 _ rfl;have k2:=K0.out.cell 2 _ rfl;have k3:=K0.out.cell 3 _ rfl;have k4:=K0.out.cell 4 _ rfl;clear hr;cases bar
 rotate_left
 ·obtain⟨pb,aF⟩:∃ pb,T.op.toList.isEmpty=pb:=⟨_,rfl⟩
  have aA:=iV (Fd aF);unfold iZ.val;cases pb
  ·have E:Hid (sk true T.pl=([],11)):=by show _=_;rw[ID,if_neg];intro e;have:=aA.out;rw[e] at this;cases this
   go_in;go_wp2;go_ret2;exact uo (by rw[E.out]) (by decide) B0.out
  ·have E:Hid (sk true T.pl=([⟨true,[nQ T]⟩],0)):=by show _=_;rw[ID,if_pos (List.isEmpty_iff.1 aA.out)]
   have DO:=iV (pt.one I true (nQ T));go_in;go_wp2;go_ret2;exact yK (ds:=[⟨true,some ⟨I.heap.size,0,none⟩,1,[nQ T]⟩]) (by rw[E.out];rfl) (DO.out.base B0.out) ⟨by simp,fun d hd=>by rw[List.map_singleton] at hd;rw[List.mem_singleton.1 hd];exact⟨by simp[jd.pl],fun a V=>by rw[show a=nQ T from by simpa [jd.pl] using V];exact Fc hgd⟩⟩
 unfold iZ.val;obtain⟨ab,ao⟩:∃ ab,(T.op.toList == [97,110,100])=ab:=⟨_,rfl⟩
 have af:Hid (ab=decide (bl T.op=nx)):=by show _=_;rw[<-ao,iY,bI,beq_iff_eq,decide_eq_true_iff];exact Iff.rfl
 obtain⟨M,aj⟩:∃ M,I.alloc (.cells #[.string T.op,.string T.nm,.int .i64 T.aop,.string T.ver,.slice T.ka T.kids.length T.kc] 86)=M:=⟨_,rfl⟩
 have B1:Hid (Below I.heap.size I M):=by rw[<-aj];exact bR.alloc lr _
 have K1:=iV (K0.out.below B1.out);have LR:Hid (Rd M 5 (some ⟨I.heap.size,0,none⟩) 1 T.cells):=by
  have:=World.ownsRow_lit (base:=I.heap.size) (e:=86) (size:=5) I T.cells.toArray 1 lr (by unfold maxLen;omega) rfl;rw[show I.alloc (.cells T.cells.toArray 86)=M from aj] at this;exact jL this
 have m0:=K1.out.cell 0 _ rfl;have m4:=K1.out.cell 4 _ rfl;have aa:=iV ((HR.out.low B0.out).low B1.out);go_in;go_upto_if 27 with(fail)
 clear ae aj;go_cut [6] (fun s wx=>∃ (PA:Option Addr) (pc:Nat),s=.slice PA (mE T).length pc/\M=wx/\Hid (Rd M 5 PA (mE T).length ((mE T).flatMap iZ.cells)))
 case first=>
  cases ab
  ·have E:Hid (mE T=[T]):=by show _=_;unfold mE;rw[if_neg (of_decide_eq_false af.out.symm)]
   go_wp2;go_meet;exact⟨_,_,by rw[E.out];rfl,by trivial,by rw[E.out];simpa [Hid] using LR.out⟩
  ·have E:Hid (mE T=T.kids):=by show _=_;unfold mE;rw[if_pos (dO af.out.symm)]
   go_wp2;go_meet;exact⟨_,_,by rw[E.out],by trivial,by rw[E.out];exact aa.out.row⟩
 case rest=>
 obtain⟨PA,pc,rfl,rfl,PR⟩:=hcut;have aC:=iV (PK hgd);clear hgd;have PT:Hid (∀ p∈mE T,Kh M p/\p.cnt<=64):=by
  intro p D;unfold mE at D;split at D
  ·exact⟨aa.out.kids p D,ai.2 p D⟩
  ·rw[List.mem_singleton.1 D];exact⟨aa.out,hn⟩
 have aM:(mE T).length<=64:=by
  unfold mE;split
  ·exact ai.1
  ·simp
 have ay:=iV (fun (p:iZ) D h=>Um (T:=T) (p:=p) D h);have aK:=iV (WV (T:=T));have BW:=iV (jc B0.out B1.out);clear k0 k1 k2 k3 k4 m0 m4 LR K0 K1 ai HR aa B0 B1 ao af;generalize mE T=P at *;generalize sk false T.pl=RR at *;go_wp2;go_loopw [7,32] (fun s7 aO wr=>∃ (k:Nat) (O:Option Addr) (oc:Nat) (ds:List jd),s7=.slice O k oc/\aO=.int .i64 k/\k<=P.length/\Hid (∀ p∈P.take k,vj p=true)/\Hid (ds.map jd.pl=(P.take k).map fun p=>⟨false,(oT p).map nQ⟩)/\Hid (pt M wr ds O k oc)) (fun _ i _=>P.length-(intOf i).toNat)
 case atStart=>exact⟨0,none,0,[],rfl,rfl,z0,by simp[Hid],rfl,pt.start M⟩
 case round=>
  obtain⟨k,O,oc,ds,rfl,rfl,hk,HN,HO,D0⟩:=hrel;by_cases aq:k<P.length
  ·obtain⟨p,D⟩:∃ p,P[k]?=some p:=⟨_,gG aq⟩
   have ac:=gM D;obtain⟨b,off,hA,he⟩:=(PR.out.below D0.out.bel).elem yo k p D;have e0:=he 0 _ rfl;have e1:=he 1 _ rfl;have e2:=he 2 _ rfl;have e3:=he 3 _ rfl;have e4:=he 4 _ rfl;simp only[Nat.add_zero] at e0;have aS:=fun W=>jm (T:=84) (E:=86) (sz:=5) (c:=pc) Tryz.underlying84 rfl Tryz.sizeOf86 hA aq W;have aJ:=iV ac;have am:=iV (jI D);have au:=iV ((PT.out p ac).1.low D0.out.bel);have ar:=Fb (PT.out p ac).2;clear D hA he ac;obtain⟨wo,rfl⟩:∃ wo:World,wo=wr:=⟨_,rfl⟩
   obtain⟨N,ag⟩:∃ N,wo.alloc (.cells #[.string p.op,.string p.nm,.int .i64 p.aop,.string p.ver,.slice p.ka p.kids.length p.kc] 86)=N:=⟨_,rfl⟩
   have B2:Hid (Below wo.heap.size wo N):=by rw[<-ag];exact bR.alloc lr _
   have K2:Hid (jh N wo.heap.size p.cells):=by rw[<-ag];exact jh.new wo p.cells _
   obtain⟨H,ah⟩:∃ H,N.alloc (.cells #[.string p.op,.string p.nm,.int .i64 p.aop,.string p.ver,.slice p.ka p.kids.length p.kc] 86)=H:=⟨_,rfl⟩
   have B3:Hid (Below N.heap.size N H):=by rw[<-ah];exact bR.alloc lr _
   have K3:=iV (K2.out.below B3.out);have LR:Hid (Rd H 5 (some ⟨N.heap.size,0,none⟩) 1 p.cells):=by
    have:=World.ownsRow_lit (base:=N.heap.size) (e:=86) (size:=5) N p.cells.toArray 1 lr (by unfold maxLen;omega) rfl;rw[show N.alloc (.cells p.cells.toArray 86)=H from ah] at this;exact jL this
   have q0:=K2.out.cell 0 _ rfl;have q1:=K2.out.cell 1 _ rfl;have q2:=K2.out.cell 2 _ rfl;have q3:=K2.out.cell 3 _ rfl;have q4:=K2.out.cell 4 _ rfl;have m0:=K3.out.cell 0 _ rfl;have m4:=K3.out.cell 4 _ rfl;have an:=iV ((au.out.low B2.out).low B3.out);obtain⟨ob,ap⟩:∃ ob,(p.op.toList == [111,114])=ob:=⟨_,rfl⟩
   have ak:Hid (ob=decide (bl p.op=mW)):=by show _=_;rw[<-ap,iY,bI,beq_iff_eq,decide_eq_true_iff];exact Iff.rfl
   go_upto_if 40 with(fail)
   clear ag ah e0 e1 e2 e3 e4 aS;go_cut [10] (fun s wx=>∃ (QA:Option Addr) (qc:Nat),s=.slice QA (oT p).length qc/\H=wx/\Hid (Rd H 5 QA (oT p).length ((oT p).flatMap iZ.cells)))
   case first=>
    cases ob
    ·have E:Hid (oT p=[p]):=by show _=_;unfold oT;rw[if_neg (of_decide_eq_false ak.out.symm)]
     go_wp2;go_meet;exact⟨_,_,by rw[E.out];rfl,by trivial,by rw[E.out];simpa [Hid] using LR.out⟩
    ·have E:Hid (oT p=p.kids):=by show _=_;unfold oT;rw[if_pos (dO ak.out.symm)]
     go_wp2;go_meet;exact⟨_,_,by rw[E.out],by trivial,by rw[E.out];exact an.out.row⟩
   case rest=>
   obtain⟨QA,qc,rfl,rfl,QR⟩:=hcut;have aE:(oT p).length<=64:=by
    unfold oT;split
    ·exact ar.1
    ·simp
   have al:Hid (vj p=(oT p).all fun a=>(bl a.op).isEmpty):=rfl;have D3:=iV (D0.out.below (jc B2.out B3.out));clear q0 q1 q2 q3 q4 m0 m4 LR K2 K3 ar au an B2 B3 ap ak D0;obtain⟨Q,hQ⟩:∃ Q,oT p=Q:=⟨_,rfl⟩
   have HQ:=iV hQ;rw[hQ] at QR aE al;rw[hQ];clear hQ;have A0:=iV (Nw.start H false 75);go_wp2;go_loopw [45] (fun i wx=>∃ (j cc:Nat) (G:Option Addr),j<=Q.length/\i=.int .i64 j/\Hid (∀ a∈Q.take j,(bl a.op).isEmpty=true)/\Hid (Nw H wx H.heap.size (H.heap.size+1) false G j cc ((Q.take j).map nQ))) (fun i _=>Q.length-(intOf i).toNat)
   case atStart=>exact⟨0,0,none,z0,rfl,by simp[Hid],A0⟩
   case round=>
    clear A0;obtain⟨j,cc,G,aW,rfl,HT,X⟩:=hrel;by_cases ad:j<Q.length
    ·obtain⟨a,V⟩:∃ a,Q[j]?=some a:=⟨_,gG ad⟩
     obtain⟨b2,aU,av,J⟩:=(QR.out.below X.out.bel).elem yo j a V;have e0:=J 0 _ rfl;have e1:=J 1 _ rfl;have e2:=J 2 _ rfl;have e3:=J 3 _ rfl;have e4:=J 4 _ rfl;simp only[Nat.add_zero] at e0;have aV:=fun W=>jm (T:=84) (E:=86) (sz:=5) (c:=qc) Tryz.underlying84 rfl Tryz.sizeOf86 av ad W;have aD:=iV (gM V);have ax:=iV (jI V);obtain⟨W5,Z⟩:∃ W5,wr.alloc (.cells #[.string a.op,.string a.nm,.int .i64 a.aop,.string a.ver,.slice a.ka a.kids.length a.kc] 86)=W5:=⟨_,rfl⟩
     have B5:Hid (Below wr.heap.size wr W5):=by rw[<-Z];exact bR.alloc lr _
     have K5:Hid (jh W5 wr.heap.size a.cells):=by show jh _ _ _;rw[<-Z];exact jh.new wr a.cells _
     have k0:=K5.out.cell 0 _ rfl;have k1:=K5.out.cell 1 _ rfl;have k2:=K5.out.cell 2 _ rfl;have k3:=K5.out.cell 3 _ rfl;have U:=iV (X.out.step B5.out);clear V av J;obtain⟨eb,aL⟩:∃ eb,a.op.toList.isEmpty=eb:=⟨_,rfl⟩
     have az:=iV (Fd aL);cases eb
     ·have E:Hid (RR=([],11)):=ay.out p aJ.out (by rw[al.out,List.all_eq_false];exact⟨a,aD.out,by rw[az.out];simp⟩);go_wp2;go_ret2;exact uo (by rw[E.out]) (by decide) (jc BW.out (jc D3.out.bel (jc X.out.bel B5.out)))
     have Y:=iV U.out.own;have m1:=U.out.box.cell 1 _ rfl;have aZ:=U.out.sz;have FB:Hid (some H.heap.size≠(Value.slice G j cc).ownBlock):=by intro e;have:=(Y.out.lt _ e.symm).1;omega
     have ba:¬ H.heap.size=wr.heap.size:=by have:=X.out.sz;omega
     have aT:¬ wr.heap.size=H.heap.size:=by omega
     have aQ:=iV Z;clear Z;go_upto_region 19 with(fail)
     rw[aQ.out]
     go_wp2_with (
      at_builtin
      refine je _ rfl _ _ _ rfl (H.heap.size+1) 78 i1 _ 3 40 Tryz.underlying34 hj aR aI aG rfl (by omega) (.slice G j cc) j _ rfl (Y.out.alloc _) (W5.heap.size+1) (some ⟨W5.heap.size,0,none⟩) 1 1 [.string a.nm,.int .i64 a.aop,.string a.ver] rfl (AD W5 _ _ _ _) (by simp[Value.oneCell']) (by simp only[maxLen];omega) (by omega) (by simp;omega) ?_;intro v1 w6 z K R;obtain⟨G1,c1,rfl⟩:=jk z;have KB:=iV ((U.out.box.alloc (.cells #[.string a.nm,.int .i64 a.aop,.string a.ver] 78)).grownR K FB.out);have bc:=KB.out.cell 1 _ rfl;have aX:=KB.out.free 1 (by simp))
     have N1:=iV (U.out.app _ (x:=nQ a) z K);clear z K R;go_wp2;go_roundw
     case rel=>exact⟨j+1,c1,G1,by omega,by go_num,iV (fun y F=>by
      rw[ax.out] at F;rcases List.mem_append.1 F with F | F
      ·exact HT.out y F
      ·rw[List.mem_singleton.1 F];exact az.out),by rw[ax.out,List.map_append];exact N1⟩
     case measure=>simp[intOf];omega
    ·obtain rfl:j=Q.length:=by omega
     have EG:Hid (vj p=true):=by
      show _=_;rw[al.out,List.all_eq_true];intro a V;exact HT.out a (by rw[List.take_length];exact V)
     have EL:Hid ((Q.take Q.length).map nQ=Q.map nQ):=by show _=_;rw[List.take_length]
     generalize (Q.take Q.length).map nQ=LL at *;have D1:=iV (D3.out.below X.out.bel);have Y:=iV D1.out.row;have m0:=X.out.box.cell 0 _ rfl;have m1:=X.out.box.cell 1 _ rfl;have aN:=iV D3.out.blk_lt;have bb:=D1.out.bel.size;have aY:=D3.out.bel.size
     go_wp2_with (
      at_builtin
      refine je _ rfl _ _ _ rfl M.heap.size 75 i0 _ 2 32 Tryz.underlying30 hi aP aB aH rfl (by omega) (.slice O k oc) k _ rfl (Y.out.alloc _) (wr.heap.size+1) (some ⟨wr.heap.size,0,none⟩) 1 1 [.bool false,.slice G Q.length cc] rfl (tC wr _ _ _) (by simp[Value.oneCell']) (by simp only[maxLen];omega) (by omega) (by simp;omega) ?_;intro v1 w6 z K R;obtain⟨O1,c1,rfl⟩:=jk z)
     have N1:Hid (pt M w6 (ds++[⟨false,G,cc,LL⟩]) O1 (k+1) c1):=D1.out.grow X.out.dep (by omega) (fun x hx g hg=>by have:=aN.out x hx g hg;omega) (by rw[X.out.cells];exact z) K;clear z K R;go_wp2;go_roundw
     case rel=>exact⟨k+1,O1,c1,_,rfl,by go_num,by omega,iV (fun y F=>by
      rw[am.out] at F;rcases List.mem_append.1 F with F | F
      ·exact HN.out y F
      ·rw[List.mem_singleton.1 F];exact EG.out),by show _=_;rw[am.out,List.map_append,List.map_append,HO.out];congr 1;simp[jd.pl,EL.out,HQ.out],N1⟩
     case measure=>simp[intOf];omega
  ·have E:Hid (RR=(ds.map jd.pl,0)):=by
    show _=_;rw[aK.out,HO.out,tL (by omega)];intro p D;exact HN.out p (by rw[tL (by omega)];exact D)
   have EF:Hid (WR (ds.map jd.pl)):=by
    rw[HO.out,tL (by omega)];refine⟨by rw[List.length_map];exact aM,fun d hd=>?_⟩;obtain⟨p,D,rfl⟩:=List.mem_map.1 hd;refine⟨?_,fun a V=>?_⟩
    ·show((oT p).map nQ).length<=64;rw[List.length_map];have:=(Fb (PT.out p D).2).1;unfold oT;split
     ·exact this
     ·simp
    ·obtain⟨y,F,rfl⟩:=List.mem_map.1 V;exact Fc (Un (aC.out p D) y F)
   go_wp2;go_ret2;exact yK E.out (D0.out.base BW.out) EF.out
def A5:List Value:=[.slice none 0 0,.string ⟨#[]⟩,.string ⟨#[]⟩,.int .i64 0,.string ⟨#[]⟩,.slice none 0 0,.slice none 0 0]
structure Nx (w wr:World) (v7 v3:List Value):Prop where
 bel:Below w.heap.size w wr
 r:jh wr w.heap.size A5
 t:jh wr (w.heap.size+1) v7
 f:jh wr (w.heap.size+2) v3
theorem Nx.step {v7 v3:List Value}(h:Nx w wr v7 v3)(hb:Below wr.heap.size wr w'):Nx w w' v7 v3:=⟨jc h.bel hb,h.r.below hb,h.t.below hb,h.f.below hb⟩
theorem Nx.start (w:World):Nx w (((w.alloc (.cells #[.slice none 0 0,.string ⟨#[]⟩,.string ⟨#[]⟩,.int .i64 0,.string ⟨#[]⟩,.slice none 0 0,.slice none 0 0] 89)).alloc (.cells #[.slice none 0 0,.string ⟨#[]⟩,.string ⟨#[]⟩,.int .i64 0,.string ⟨#[]⟩,.slice none 0 0,.slice none 0 0] 89)).alloc (.cells #[.string ⟨#[]⟩,.int .i64 0,.int .i64 0] 132)) A5 [.string ⟨#[]⟩,.int .i64 0,.int .i64 0]:=by
 refine⟨((bR.alloc lr _).alloc (by simp) _).alloc (by simp;omega) _,((jh.new w A5 _).alloc _).alloc _,?_,?_⟩
 ·have:=jh.new (w.alloc (.cells #[.slice none 0 0,.string ⟨#[]⟩,.string ⟨#[]⟩,.int .i64 0,.string ⟨#[]⟩,.slice none 0 0,.slice none 0 0] 89)) A5 89;rw[show(w.alloc (.cells #[.slice none 0 0,.string ⟨#[]⟩,.string ⟨#[]⟩,.int .i64 0,.string ⟨#[]⟩,.slice none 0 0,.slice none 0 0] 89)).heap.size=w.heap.size+1 by simp] at this;exact this.alloc _
 ·have:=jh.new ((w.alloc (.cells #[.slice none 0 0,.string ⟨#[]⟩,.string ⟨#[]⟩,.int .i64 0,.string ⟨#[]⟩,.slice none 0 0,.slice none 0 0] 89)).alloc (.cells #[.slice none 0 0,.string ⟨#[]⟩,.string ⟨#[]⟩,.int .i64 0,.string ⟨#[]⟩,.slice none 0 0,.slice none 0 0] 89)) [.string ⟨#[]⟩,.int .i64 0,.int .i64 0] 132;rw[show((w.alloc (.cells #[.slice none 0 0,.string ⟨#[]⟩,.string ⟨#[]⟩,.int .i64 0,.string ⟨#[]⟩,.slice none 0 0,.slice none 0 0] 89)).alloc (.cells #[.slice none 0 0,.string ⟨#[]⟩,.string ⟨#[]⟩,.int .i64 0,.string ⟨#[]⟩,.slice none 0 0,.slice none 0 0] 89)).heap.size=w.heap.size+2 by simp] at this;exact this
theorem Nx.cells {a0 a1 a2 a3 a4 a5 a6 b0 b1 b2:Value}(h:Nx w wr [a0,a1,a2,a3,a4,a5,a6] [b0,b1,b2]):
  (wr.cell? ⟨w.heap.size+1,0,none⟩=some a0/\wr.cell? ⟨w.heap.size+1,1,none⟩=some a1/\wr.cell? ⟨w.heap.size+1,2,none⟩=some a2/\wr.cell? ⟨w.heap.size+1,3,none⟩=some a3/\wr.cell? ⟨w.heap.size+1,4,none⟩=some a4/\wr.cell? ⟨w.heap.size+1,5,none⟩=some a5/\wr.cell? ⟨w.heap.size+1,6,none⟩=some a6) /\
  (wr.cell? ⟨w.heap.size+2,0,none⟩=some b0/\wr.cell? ⟨w.heap.size+2,1,none⟩=some b1/\wr.cell? ⟨w.heap.size+2,2,none⟩=some b2) /\
  (wr.cell? ⟨w.heap.size,0,none⟩=some (.slice none 0 0)/\wr.cell? ⟨w.heap.size,1,none⟩=some (.string ⟨#[]⟩)/\wr.cell? ⟨w.heap.size,2,none⟩=some (.string ⟨#[]⟩)/\wr.cell? ⟨w.heap.size,3,none⟩=some (.int .i64 0)/\wr.cell? ⟨w.heap.size,4,none⟩=some (.string ⟨#[]⟩)/\wr.cell? ⟨w.heap.size,5,none⟩=some (.slice none 0 0)/\wr.cell? ⟨w.heap.size,6,none⟩=some (.slice none 0 0)) /\
  (∀ j,j<7->wr.frozen? ⟨w.heap.size+1,j,none⟩=false)/\(∀ j,j<3->wr.frozen? ⟨w.heap.size+2,j,none⟩=false)/\(∀ j,j<7->wr.frozen? ⟨w.heap.size,j,none⟩=false):=
 ⟨⟨h.t.cell 0 _ rfl,h.t.cell 1 _ rfl,h.t.cell 2 _ rfl,h.t.cell 3 _ rfl,h.t.cell 4 _ rfl,h.t.cell 5 _ rfl,h.t.cell 6 _ rfl⟩,⟨h.f.cell 0 _ rfl,h.f.cell 1 _ rfl,h.f.cell 2 _ rfl⟩,
  ⟨h.r.cell 0 _ rfl,h.r.cell 1 _ rfl,h.r.cell 2 _ rfl,h.r.cell 3 _ rfl,h.r.cell 4 _ rfl,h.r.cell 5 _ rfl,h.r.cell 6 _ rfl⟩,fun j y=>h.t.free j y,fun j y=>h.f.free j y,fun j y=>h.r.free j y⟩
abbrev Uo (wr:World) (b:Nat) (v0 v1 v2 v3 v4 v5 v6:Value):World:=((((((wr.setCell ⟨b,0,none⟩ v0).setCell ⟨b,1,none⟩ v1).setCell ⟨b,2,none⟩ v2).setCell ⟨b,3,none⟩ v3).setCell ⟨b,4,none⟩ v4).setCell ⟨b,5,none⟩ v5).setCell ⟨b,6,none⟩ v6
abbrev PL (wr:World) (b:Nat) (v0 v1 v2:Value):World:=((wr.setCell ⟨b,0,none⟩ v0).setCell ⟨b,1,none⟩ v1).setCell ⟨b,2,none⟩ v2
abbrev MG (wr:World) (b:Nat) (v0 v1 v2 v3 v4:Value):World:=((((wr.setCell ⟨b,1,none⟩ v0).setCell ⟨b,2,none⟩ v1).setCell ⟨b,3,none⟩ v2).setCell ⟨b,4,none⟩ v3).setCell ⟨b,5,none⟩ v4
theorem xl (h:Below n w wr)(hb:n<=b)(v0 v1 v2 v3 v4 v5 v6:Value):Below n w (Uo wr b v0 v1 v2 v3 v4 v5 v6):=by
 unfold Uo;repeat' refine jb ?_ hb _
 exact h
theorem xm (h:Below n w wr)(hb:n<=b)(v0 v1 v2:Value):Below n w (PL wr b v0 v1 v2):=by
 unfold PL;repeat' refine jb ?_ hb _
 exact h
theorem MH (h:Below n w wr)(hb:n<=b)(v0 v1 v2 v3 v4:Value):Below n w (MG wr b v0 v1 v2 v3 v4):=by
 unfold MG;repeat' refine jb ?_ hb _
 exact h
theorem JZ (wr:World)(b j:Nat)(v:Value):wr.grownBy (wr.setCell ⟨b,j,none⟩ v) (some b):=ji (World.grownBy.refl wr (some b)) (.inl rfl) _
theorem J0 (wr:World)(b:Nat)(v0 v1 v2 v3 v4 v5 v6:Value):wr.grownBy (Uo wr b v0 v1 v2 v3 v4 v5 v6) (some b):=by
 unfold Uo;repeat' refine ji ?_ (.inl rfl) _
 exact World.grownBy.refl wr (some b)
theorem vG (wr:World)(b:Nat)(v0 v1 v2:Value):wr.grownBy (PL wr b v0 v1 v2) (some b):=by
 unfold PL;repeat' refine ji ?_ (.inl rfl) _
 exact World.grownBy.refl wr (some b)
theorem MI (wr:World)(b:Nat)(v0 v1 v2 v3 v4:Value):wr.grownBy (MG wr b v0 v1 v2 v3 v4) (some b):=by
 unfold MG;repeat' refine ji ?_ (.inl rfl) _
 exact World.grownBy.refl wr (some b)
theorem PM {tmps:Array Value}(h:jh W b A5)(ht:tmps[4]?=some (.pointer (some ⟨b,0,none⟩))){k:Int}(ht5:tmps[5]?=some (.int .i64 k))(A:Option Addr)(n c:Nat)(s1 s2:BA)(i:Int)(s3:BA)(B:Option Addr)(m d:Nat)(C:Option Addr)(p q:Nat):
  (results Tryz.f31 tmps).run Tryz.prog (Uo W b (.slice A n c) (.string s1) (.string s2) (.int .i64 i) (.string s3) (.slice B m d) (.slice C p q)).drew =
   .ok (.tuple #[.agg #[.slice A n c,.string s1,.string s2,.int .i64 i,.string s3,.slice B m d,.slice C p q],.int .i64 k]) (Uo W b (.slice A n c) (.string s1) (.string s2) (.int .i64 i) (.string s3) (.slice B m d) (.slice C p q)).drew:=by
 have I:=h.cell 0 _ rfl;have z:=h.cell 1 _ rfl;have D:=h.cell 2 _ rfl;have y:=h.cell 3 _ rfl;have J:=h.cell 4 _ rfl;have H:=h.cell 5 _ rfl;have F:=h.cell 6 _ rfl;simp(maxDischargeDepth:=10) [results,Tryz.results31,ht,ht5,go_sem,I,z,D,y,J,H,F]
def Y1 (A:Option Addr)(n c:Nat)(T:iZ)(B:Option Addr)(m d:Nat):Value:=.agg #[.slice A n c,.string T.op,.string T.nm,.int .i64 T.aop,.string T.ver,.slice T.ka T.kids.length T.kc,.slice B m d]
def Tx1 (s:LU)(w:World)(code:Int)(A:Option Addr)(n:Nat):Prop:=match mB s with
 | none=>code≠0
 | some L=>code=0/\∃ gs:List jE,gs.map jE.pl=L/\gs.length=n/\uG w A gs/\Dq gs/\yk gs
def Tx2 (s:LU)(w:World)(code:Int)(T:iZ):Prop:=match lJ s with
 | none=>code≠0
 | some t=>code=0/\T.pl=t/\Kh w T/\T.cnt<=64/\lT T
def Tx3 (s:LU)(w:World)(code:Int)(B:Option Addr)(m:Nat):Prop:=match mq s with
 | none=>code≠0
 | some L=>code=0/\m=L.length/\Rd w 4 B m (L.flatMap mo.cells)/\L.length<=64/\∀ x∈L,x.right
theorem nu.base {lo lo':Nat}{gs:List jE}(h:nu w lo A n c gs)(hl:lo'<=lo):nu w lo' A n c gs:=⟨h.len,jK h.row hl,fun g y=>(h.grp g y).base hl⟩
structure aa4 (fmt:Int) (s:LU) (lo:Nat) (w:World) (A:Option Addr) (n c:Nat) (T:iZ) (B:Option Addr) (m d:Nat):Prop where
 grp:∀ L,fmt=1->mB s=some L->∃ gs:List jE,gs.map jE.pl=L/\nu w lo A n c gs
 rch:∀ t,fmt=2->lJ s=some t->kD w lo none T
 wnt:∀ L,fmt=3->mq s=some L->w.ownsRow lo 142 4 (.slice B m d) m (L.flatMap mo.cells)
def Fe (fmt:Int)(s:LU)(w:World)(e:Ending)(w':World):Prop:=
 ∃ (A:Option Addr) (n c:Nat) (T:iZ) (B:Option Addr) (m d:Nat) (code:Int),e=.returned (.tuple #[Y1 A n c T B m d,.int .i64 code])/\Below w.heap.size w w' /\
  (fmt=1->Tx1 s w' code A n)/\(fmt=2->Tx2 s w' code T)/\(fmt=3->Tx3 s w' code B m)/\aa4 fmt s w.heap.size w' A n c T B m d
theorem PO (s:BA)(w:World)(hG:Gl w)(hs:s.size<=1000000):Calls Tryz.prog 31 #[.int .i64 1,.string s] w (Fe 1 (bl s) w):=by
 have HG:=iV hG;obtain⟨J,F⟩:∃ J,((w.alloc (.cells #[.slice none 0 0,.string ⟨#[]⟩,.string ⟨#[]⟩,.int .i64 0,.string ⟨#[]⟩,.slice none 0 0,.slice none 0 0] 89)).alloc (.cells #[.slice none 0 0,.string ⟨#[]⟩,.string ⟨#[]⟩,.int .i64 0,.string ⟨#[]⟩,.slice none 0 0,.slice none 0 0] 89)).alloc (.cells #[.string ⟨#[]⟩,.int .i64 0,.int .i64 0] 132)=J:=⟨_,rfl⟩
 have O:Hid (Nx w J A5 [.string ⟨#[]⟩,.int .i64 0,.int .i64 0]):=by show Nx _ _ _ _;rw[<-F];exact Nx.start w
 have af:w.heap.size+3=J.heap.size:=by rw[<-F];simp
 clear hG;go_in;go_wp2_with fail;clear F;refine(Ds s J (HG.out.below O.out.bel) (by omega)).mono ?_;rintro e X ⟨A,n,c,f,x,y,rfl,K,I⟩;have R:=iV (O.out.step K);have HM:=iV I;clear K I O;unfold nC;obtain⟨⟨t0,t1,t2,t3,t4,t5,t6⟩,⟨f0,f1,f2⟩,⟨r0,r1,r2,r3,r4,r5,r6⟩,D,M,z⟩:=R.out.cells;have ao:=D 0 (by omega);have am:=D 1 (by omega);have ai:=D 2 (by omega);have ak:=D 3 (by omega);have aa:=D 4 (by omega);have ag:=D 5 (by omega);have al:=D 6 (by omega);have an:=M 0 (by omega);have ad:=M 1 (by omega);have aj:=M 2 (by omega);have ac:=z 0 (by omega);have ab:=z 1 (by omega);have Z:=z 2 (by omega);have ae:=z 3 (by omega);have ah:=z 4 (by omega);have ap:=z 5 (by omega);have Y:=z 6 (by omega);clear D M z;go_wp2;go_region;go_wp2_with fail;refine bodyPost_ret (PM (W:=PL (X.setCell ⟨w.heap.size+1,0,none⟩ (.slice A n c)) (w.heap.size+2) (.string f) (.int .i64 x) (.int .i64 y)) ?_ rfl rfl A n c ⟨#[]⟩ ⟨#[]⟩ 0 ⟨#[]⟩ none 0 0 none 0 0) rfl ?_
 ·exact((R.out.r.grownBy (JZ _ _ _ _) (by simp)).grownBy (vG _ _ _ _ _) (by simp))
 refine⟨A,n,c,tE,none,0,0,y,rfl,(xl (xm (jb R.out.bel (by omega) _) (by omega) _ _ _) lr _ _ _ _ _ _ _).drew,?_⟩;have I:=HM.out;cases hd:mB (bl s) with
 | none=>rw[hd] at I;exact⟨fun _=>by unfold Tx1;rw[hd];exact I.1,fun h=>absurd h (by decide),fun h=>absurd h (by decide),fun L _ h=>(by rw[hd] at h;cases h),fun _ h=>absurd h (by decide),fun _ h=>absurd h (by decide)⟩
 | some L=>
  rw[hd] at I;obtain⟨h0,U,H,V⟩:=I;have k1:=V.kept (g:=w.heap.size+1) (by omega) (JZ X (w.heap.size+1) 0 (.slice A n c));have k2:=k1.kept (g:=w.heap.size+2) (by omega) (vG _ (w.heap.size+2) (.string f) (.int .i64 x) (.int .i64 y));have k3:=k2.kept (g:=w.heap.size) (by omega) (J0 _ w.heap.size (.slice A n c) (.string ⟨#[]⟩) (.string ⟨#[]⟩) (.int .i64 0) (.string ⟨#[]⟩) (.slice none 0 0) (.slice none 0 0));have N:nu _ w.heap.size A n c U:=(k3.below (rZ bR)).base (by omega);exact⟨fun _=>by unfold Tx1;rw[hd];exact⟨h0,U,H,V.len,N.ok,N.cap,yk.of (by rw[H];exact wV hd (by rw[iX];omega))⟩,fun h=>absurd h (by decide),fun h=>absurd h (by decide),fun L' _ h=>(by rw[hd] at h;injection h with h;subst h;exact⟨U,H,N⟩),fun _ h=>absurd h (by decide),fun _ h=>absurd h (by decide)⟩
theorem PQ (s:BA)(w:World)(hG:Gl w)(hs:s.size<=1000000):Calls Tryz.prog 31 #[.int .i64 2,.string s] w (Fe 2 (bl s) w):=by
 have HG:=iV hG;obtain⟨I,F⟩:∃ I,((w.alloc (.cells #[.slice none 0 0,.string ⟨#[]⟩,.string ⟨#[]⟩,.int .i64 0,.string ⟨#[]⟩,.slice none 0 0,.slice none 0 0] 89)).alloc (.cells #[.slice none 0 0,.string ⟨#[]⟩,.string ⟨#[]⟩,.int .i64 0,.string ⟨#[]⟩,.slice none 0 0,.slice none 0 0] 89)).alloc (.cells #[.string ⟨#[]⟩,.int .i64 0,.int .i64 0] 132)=I:=⟨_,rfl⟩
 have M:Hid (Nx w I A5 [.string ⟨#[]⟩,.int .i64 0,.int .i64 0]):=by show Nx _ _ _ _;rw[<-F];exact Nx.start w
 have af:w.heap.size+3=I.heap.size:=by rw[<-F];simp
 clear hG;go_in;go_wp2_with fail;clear F;refine(Eb s I (HG.out.below M.out.bel) hs).mono ?_;rintro e U ⟨T,f,x,y,rfl,J,H⟩;have N:=iV (M.out.step J);have HM:=iV H;clear J H M;unfold nC;obtain⟨⟨t0,t1,t2,t3,t4,t5,t6⟩,⟨f0,f1,f2⟩,⟨r0,r1,r2,r3,r4,r5,r6⟩,D,K,z⟩:=N.out.cells;have ao:=D 0 (by omega);have am:=D 1 (by omega);have ai:=D 2 (by omega);have ak:=D 3 (by omega);have aa:=D 4 (by omega);have ag:=D 5 (by omega);have al:=D 6 (by omega);have an:=K 0 (by omega);have ad:=K 1 (by omega);have aj:=K 2 (by omega);have ac:=z 0 (by omega);have ab:=z 1 (by omega);have Y:=z 2 (by omega);have ae:=z 3 (by omega);have ah:=z 4 (by omega);have ap:=z 5 (by omega);have X:=z 6 (by omega);clear D K z;unfold iZ.val;go_wp2;go_region;go_wp2_with fail;refine bodyPost_ret (PM (W:=PL (MG U (w.heap.size+1) (.string T.op) (.string T.nm) (.int .i64 T.aop) (.string T.ver) (.slice T.ka T.kids.length T.kc)) (w.heap.size+2) (.string f) (.int .i64 x) (.int .i64 y)) ?_ rfl rfl none 0 0 T.op T.nm T.aop T.ver T.ka T.kids.length T.kc none 0 0) rfl ?_
 ·exact((N.out.r.grownBy (MI _ _ _ _ _ _ _) (by simp)).grownBy (vG _ _ _ _ _) (by simp))
 refine⟨none,0,0,T,none,0,0,y,rfl,(xl (xm (MH N.out.bel (by omega) _ _ _ _ _) (by omega) _ _ _) lr _ _ _ _ _ _ _).drew,?_⟩;have H:=HM.out;cases hd:lJ (bl s) with
 | none=>rw[hd] at H;exact⟨fun h=>absurd h (by decide),fun _=>by unfold Tx2;rw[hd];exact H.1,fun h=>absurd h (by decide),fun _ h=>absurd h (by decide),fun L _ h=>(by rw[hd] at h;cases h),fun _ h=>absurd h (by decide)⟩
 | some t=>
  rw[hd] at H;obtain⟨h0,hT,O,V,_,hc⟩:=H;have k1:=V.kept (g:=w.heap.size+1) (by omega) (MI U (w.heap.size+1) (.string T.op) (.string T.nm) (.int .i64 T.aop) (.string T.ver) (.slice T.ka T.kids.length T.kc));have k2:=k1.kept (g:=w.heap.size+2) (by omega) (vG _ (w.heap.size+2) (.string f) (.int .i64 x) (.int .i64 y));have Z:=k2.kept (g:=w.heap.size) (by omega) (J0 _ w.heap.size (.slice none 0 0) (.string T.op) (.string T.nm) (.int .i64 T.aop) (.string T.ver) (.slice T.ka T.kids.length T.kc) (.slice none 0 0));have R:kD _ w.heap.size none T:=(Z.low (rZ bR)).base (by omega);exact⟨fun h=>absurd h (by decide),fun _=>by unfold Tx2;rw[hd];exact⟨h0,hT,R.rd,hc,O⟩,fun h=>absurd h (by decide),fun _ h=>absurd h (by decide),fun _ _ _=>R,fun _ h=>absurd h (by decide)⟩
theorem PU (s:BA)(w:World)(hG:QN w)(hs:s.size<=1000000):Calls Tryz.prog 31 #[.int .i64 3,.string s] w (Fe 3 (bl s) w):=by
 have HG:=iV hG;obtain⟨I,F⟩:∃ I,((w.alloc (.cells #[.slice none 0 0,.string ⟨#[]⟩,.string ⟨#[]⟩,.int .i64 0,.string ⟨#[]⟩,.slice none 0 0,.slice none 0 0] 89)).alloc (.cells #[.slice none 0 0,.string ⟨#[]⟩,.string ⟨#[]⟩,.int .i64 0,.string ⟨#[]⟩,.slice none 0 0,.slice none 0 0] 89)).alloc (.cells #[.string ⟨#[]⟩,.int .i64 0,.int .i64 0] 132)=I:=⟨_,rfl⟩
 have M:Hid (Nx w I A5 [.string ⟨#[]⟩,.int .i64 0,.int .i64 0]):=by show Nx _ _ _ _;rw[<-F];exact Nx.start w
 have af:w.heap.size+3=I.heap.size:=by rw[<-F];simp
 clear hG;go_in;go_wp2_with fail;clear F;refine(Dj s I (HG.out.below M.out.bel) (by omega)).mono ?_;rintro e R ⟨A,n,c,f,x,y,rfl,J,H⟩;have N:=iV (M.out.step J);have HM:=iV H;clear J H M;unfold nC;obtain⟨⟨t0,t1,t2,t3,t4,t5,t6⟩,⟨f0,f1,f2⟩,⟨r0,r1,r2,r3,r4,r5,r6⟩,D,K,z⟩:=N.out.cells;have ao:=D 0 (by omega);have am:=D 1 (by omega);have ai:=D 2 (by omega);have ak:=D 3 (by omega);have aa:=D 4 (by omega);have ag:=D 5 (by omega);have al:=D 6 (by omega);have an:=K 0 (by omega);have ad:=K 1 (by omega);have aj:=K 2 (by omega);have ac:=z 0 (by omega);have ab:=z 1 (by omega);have Z:=z 2 (by omega);have ae:=z 3 (by omega);have ah:=z 4 (by omega);have ap:=z 5 (by omega);have X:=z 6 (by omega);clear D K z;go_wp2;go_region;go_wp2_with fail;refine bodyPost_ret (PM (W:=PL (R.setCell ⟨w.heap.size+1,6,none⟩ (.slice A n c)) (w.heap.size+2) (.string f) (.int .i64 x) (.int .i64 y)) ?_ rfl rfl none 0 0 ⟨#[]⟩ ⟨#[]⟩ 0 ⟨#[]⟩ none 0 0 A n c) rfl ?_
 ·exact((N.out.r.grownBy (JZ _ _ _ _) (by simp)).grownBy (vG _ _ _ _ _) (by simp))
 refine⟨none,0,0,tE,A,n,c,y,rfl,(xl (xm (jb N.out.bel (by omega) _) (by omega) _ _ _) lr _ _ _ _ _ _ _).drew,?_⟩;have H:=HM.out;cases hd:mq (bl s) with
 | none=>rw[hd] at H;exact⟨fun h=>absurd h (by decide),fun h=>absurd h (by decide),fun _=>by unfold Tx3;rw[hd];exact H.1,fun _ h=>absurd h (by decide),fun _ h=>absurd h (by decide),fun L _ h=>(by rw[hd] at h;cases h)⟩
 | some L=>
  rw[hd] at H;obtain⟨h0,hn,V⟩:=H;have k1:=jS (g:=w.heap.size+1) V (by omega) (JZ R (w.heap.size+1) 6 (.slice A n c));have k2:=jS (g:=w.heap.size+2) k1 (by omega) (vG _ (w.heap.size+2) (.string f) (.int .i64 x) (.int .i64 y));have k3:=jS (g:=w.heap.size) k2 (by omega) (J0 _ w.heap.size (.slice none 0 0) (.string ⟨#[]⟩) (.string ⟨#[]⟩) (.int .i64 0) (.string ⟨#[]⟩) (.slice none 0 0) (.slice A n c));have U:=uB ((bl s).length+1) 0 (bl s) L (by omega) hd;have O:=jK (base':=w.heap.size) (jp k3 (rZ bR)) (by omega);exact⟨fun h=>absurd h (by decide),fun h=>absurd h (by decide),fun _=>by unfold Tx3;rw[hd];exact⟨h0,hn,jL O,by have:=U.2;omega,U.1⟩,fun _ h=>absurd h (by decide),fun _ h=>absurd h (by decide),fun L' _ h=>(by have Y:=Option.some.inj (hd.symm.trans h);exact Y ▸ O)⟩
structure xC (w:World):Prop where
 e:QN w
 p:Ps w
theorem xC.below (h:xC w)(hb:Below w.heap.size w w'):xC w':=⟨h.e.below hb,h.p.below hb⟩
theorem nA.base {r:List jA×Int}{w1:World}{e:Ending}(h:nA r w1 e w')(hb:Below w.heap.size w w1):nA r w e w':=by
 obtain⟨A,n,c,I,z,H,D,y⟩:=h;refine⟨A,n,c,I,z,H,jc hb D,?_⟩;split at y
 ·rename_i F;rw[if_pos F];exact⟨y.1,y.2.1,y.2.2.1.base hb,y.2.2.2⟩
 ·rename_i F;rw[if_neg F];exact y
theorem Ag {r:List jA×Int}{code:Int}(hr:r=([],-1))(hc:code≠0)(hb:Below w.heap.size w w'):nA r w (.returned (.tuple #[.slice none 0 0,.int .i64 code])) w':=
 ⟨none,0,0,[],code,rfl,hb,by rw[hr,if_neg (by decide)];exact⟨hc,fun h=>absurd rfl h,rfl,rfl⟩⟩
theorem WW {L:List (List kP)}(h:mB s=some L):kF 1 bar s=wq bar L:=by unfold kF;rw[if_pos rfl,h]
theorem Rt (h:mB s=none):kF 1 bar s=([],-1):=by unfold kF;rw[if_pos rfl,h]
theorem WX {d:oM}(h:lJ s=some d):kF 2 bar s=sk bar d:=by unfold kF;rw[if_neg (by decide),if_pos rfl,h]
theorem Ru (h:lJ s=none):kF 2 bar s=([],-1):=by unfold kF;rw[if_neg (by decide),if_pos rfl,h]
theorem WY {L:List mo}(h:mq s=some L):kF 3 bar s=wt bar L:=by unfold kF;rw[if_neg (by decide),if_neg (by decide),h]
theorem Rv (h:mq s=none):kF 3 bar s=([],-1):=by unfold kF;rw[if_neg (by decide),if_neg (by decide),h]
def Up (A:Option Addr)(n c:Nat)(T:iZ)(B:Option Addr)(m d:Nat):List Value:=[.slice A n c,.string T.op,.string T.nm,.int .i64 T.aop,.string T.ver,.slice T.ka T.kids.length T.kc,.slice B m d]
theorem PV (bar:Bool)(s:BA)(w:World)(hG:xC w)(hs:s.size<=1000000):Calls Tryz.prog 56 #[.int .i64 1,.string s,.bool bar] w (nA (kF 1 bar (bl s)) w):=by
 have HG:=iV hG;clear hG;go_in;go_wp2_with fail;refine(PO s w HG.out.e.1 hs).mono ?_;rintro e J ⟨A,n,c,T,B,m,d,M,rfl,K,U,Z,h3⟩;have y:=U rfl;have B1:=iV K;clear U Z h3 K;unfold Y1;obtain⟨H,z⟩:∃ H,J.alloc (.cells #[.slice A n c,.string T.op,.string T.nm,.int .i64 T.aop,.string T.ver,.slice T.ka T.kids.length T.kc,.slice B m d] 89)=H:=⟨_,rfl⟩
 have O:Hid (Below J.heap.size J H):=by rw[<-z];exact bR.alloc lr _
 have D:Hid (jh H J.heap.size (Up A n c T B m d)):=by show jh _ _ _;rw[<-z];exact jh.new J (Up A n c T B m d) _
 have k0:=D.out.cell 0 _ rfl;have k1:=D.out.cell 1 _ rfl;have k2:=D.out.cell 2 _ rfl;have k3:=D.out.cell 3 _ rfl;have k4:=D.out.cell 4 _ rfl;have k5:=D.out.cell 5 _ rfl;have k6:=D.out.cell 6 _ rfl;have X:=iV (jc B1.out O.out);have I:=iV z;clear z;unfold Tx1 at y;cases hd:mB (bl s) with
 | none=>
  rw[hd] at y;have E:=iV (Rt (bar:=bar) hd);have q:(M != 0)=true:=by simpa [bne] using y
  have HC:=iV y;clear y hd;go_upto_region 2 with(fail)
  rw[I.out];go_wp2;go_ret2;exact Ag E.out HC.out X.out
 | some L=>
  rw[hd] at y;obtain⟨rfl,gs,rfl,rfl,y⟩:=y;have E:=iV (WW (bar:=bar) hd);have F:=iV y;clear y hd;go_upto_region 2 with(fail)
  rw[I.out];go_wp2_with fail;refine(BO bar A c gs H (F.out.1.below O.out) F.out.2.2.few F.out.2.2.len (fun g R t ht=>⟨(F.out.2.2.ok g R t ht).nmz,(F.out.2.2.ok g R t ht).verz⟩) F.out.2.1).mono ?_;rintro e w3 Y;have V:=iV (Y.base X.out);obtain⟨A',n',c',ds,N,rfl,hb,hi⟩:=V.out;clear Y hb hi;go_wp2;go_ret2;rw[E.out];exact V.out
theorem PW (bar:Bool)(s:BA)(w:World)(hG:xC w)(hs:s.size<=1000000):Calls Tryz.prog 56 #[.int .i64 2,.string s,.bool bar] w (nA (kF 2 bar (bl s)) w):=by
 have HG:=iV hG;clear hG;go_in;go_wp2_with fail;refine(PQ s w HG.out.e.1 hs).mono ?_;rintro e I ⟨A,n,c,T,B,m,d,K,rfl,J,h1,O,Z⟩;have y:=O rfl;have B1:=iV J;clear h1 O Z J;unfold Y1;obtain⟨F,z⟩:∃ F,I.alloc (.cells #[.slice A n c,.string T.op,.string T.nm,.int .i64 T.aop,.string T.ver,.slice T.ka T.kids.length T.kc,.slice B m d] 89)=F:=⟨_,rfl⟩
 have R:Hid (Below I.heap.size I F):=by rw[<-z];exact bR.alloc lr _
 have D:Hid (jh F I.heap.size (Up A n c T B m d)):=by show jh _ _ _;rw[<-z];exact jh.new I (Up A n c T B m d) _
 have k0:=D.out.cell 0 _ rfl;have k1:=D.out.cell 1 _ rfl;have k2:=D.out.cell 2 _ rfl;have k3:=D.out.cell 3 _ rfl;have k4:=D.out.cell 4 _ rfl;have k5:=D.out.cell 5 _ rfl;have k6:=D.out.cell 6 _ rfl;have V:=iV (jc B1.out R.out);have H:=iV z;clear z;unfold Tx2 at y;cases hd:lJ (bl s) with
 | none=>
  rw[hd] at y;have E:=iV (Ru (bar:=bar) hd);have q:(K != 0)=true:=by simpa [bne] using y
  have HC:=iV y;clear y hd;go_upto_region 2 with(fail)
  rw[H.out];go_wp2;go_ret2;exact Ag E.out HC.out V.out
 | some L=>
  rw[hd] at y;obtain⟨rfl,rfl,y⟩:=y;have E:=iV (WX (bar:=bar) hd);have N:=iV y;clear y hd;go_upto_region 2 with(fail)
  rw[H.out];go_wp2_with fail;refine(GI bar T F (N.out.1.low R.out) N.out.2.1 N.out.2.2).mono ?_;rintro e w3 X;have U:=iV (X.base V.out);obtain⟨A',n',c',ds,M,rfl,Y,hi⟩:=U.out;clear X Y hi;go_wp2;go_ret2;rw[E.out];exact U.out
theorem PX (bar:Bool)(s:BA)(w:World)(hG:xC w)(hs:s.size<=1000000):Calls Tryz.prog 56 #[.int .i64 3,.string s,.bool bar] w (nA (kF 3 bar (bl s)) w):=by
 have HG:=iV hG;clear hG;go_in;go_wp2_with fail;refine(PU s w HG.out.e hs).mono ?_;rintro e I ⟨A,n,c,T,B,m,d,K,rfl,J,h1,Y,R,-⟩;have y:=R rfl;have B1:=iV J;clear h1 Y R J;unfold Y1;obtain⟨F,z⟩:∃ F,I.alloc (.cells #[.slice A n c,.string T.op,.string T.nm,.int .i64 T.aop,.string T.ver,.slice T.ka T.kids.length T.kc,.slice B m d] 89)=F:=⟨_,rfl⟩
 have O:Hid (Below I.heap.size I F):=by rw[<-z];exact bR.alloc lr _
 have D:Hid (jh F I.heap.size (Up A n c T B m d)):=by show jh _ _ _;rw[<-z];exact jh.new I (Up A n c T B m d) _
 have k0:=D.out.cell 0 _ rfl;have k1:=D.out.cell 1 _ rfl;have k2:=D.out.cell 2 _ rfl;have k3:=D.out.cell 3 _ rfl;have k4:=D.out.cell 4 _ rfl;have k5:=D.out.cell 5 _ rfl;have k6:=D.out.cell 6 _ rfl;have V:=iV (jc B1.out O.out);have H:=iV z;clear z;unfold Tx3 at y;cases hd:mq (bl s) with
 | none=>
  rw[hd] at y;have E:=iV (Rv (bar:=bar) hd);have q:(K != 0)=true:=by simpa [bne] using y
  have HC:=iV y;clear y hd;go_upto_region 2 with(fail)
  rw[H.out];go_wp2;go_ret2;exact Ag E.out HC.out V.out
 | some L=>
  rw[hd] at y;obtain⟨rfl,rfl,y⟩:=y;have E:=iV (WY (bar:=bar) hd);have N:=iV y;clear y hd;go_upto_region 2 with(fail)
  rw[H.out];go_wp2_with fail;refine(Fa bar B d L F (N.out.1.below O.out) N.out.2.1 N.out.2.2).mono ?_;rintro e w3 X;have U:=iV (X.base V.out);obtain⟨A',n',c',ds,M,rfl,Z,hi⟩:=U.out;clear X Z hi;go_wp2;go_ret2;rw[E.out];exact U.out
theorem Uq (fmt:Int)(hf:lE fmt)(bar:Bool)(s:BA)(w:World)(hG:xC w)(hs:s.size<=1000000):Calls Tryz.prog 56 #[.int .i64 fmt,.string s,.bool bar] w (nA (kF fmt bar (bl s)) w):=by
 rcases hf with rfl | rfl | rfl
 ·exact PV bar s w hG hs
 ·exact PW bar s w hG hs
 ·exact PX bar s w hG hs
theorem yL:∀ l:List jd,∀ u∈l.flatMap jd.cells,u.oneCell'=true
 | [],u,y=>by simp at y
 | d::r,u,y=>by
  rw[List.flatMap_cons,List.mem_append] at y;rcases y with y | y
  ·simp only[jd.cells,List.mem_cons,List.not_mem_nil,or_false] at y;rcases y with rfl | rfl<;>rfl
  ·exact yL r u y
theorem vH (fmt:Int)(bar:Bool)(A:Option Addr)(c:Nat)(l:List BA)(w:World)(hG:xC w)(hr:Rd w 1 A l.length (strCells l))(hl:l.length<=1000)(hz:∀ x∈l,x.size<=1000000):Calls Tryz.prog 27 #[.int .i64 fmt,.slice A l.length c,.bool bar] w (Ff fmt bar (l.map bl) w):=by
 obtain⟨i0,hi,ch,bK,bS⟩:=info_parts sr;have HG:=iV hG;have HR:=iV hr;have HZ:=iV hz;have ax:=iV fun W=>wn fmt W;clear hG hr hz;by_cases hf:¬ lE fmt
 ·have E:=iV (Ur hf (bar:=bar) (ts:=l.map bl));rw[dF hf] at ax;clear hf;go_in;go_wp2_with fail;refine(ax.out _).mono ?_;rintro e w' ⟨rfl,rfl⟩;go_wp2;go_ret2;exact Cn (by rw[E.out];decide) (by decide) (fun _=>E.out.symm) bR
 have aV:lE fmt:=Decidable.not_not.1 hf;rw[dT aV] at ax;have HF:=iV aV;clear hf aV;go_in;go_wp2_with fail;refine(ax.out _).mono ?_;rintro e w' ⟨rfl,rfl⟩;go_wp2;go_loopw [8,9,24] (fun s8 s9 bR wr=>∃ (k:Nat) (O:Option Addr) (n oc cnt:Nat) (ds:List jd),s8=.slice O n oc/\s9=.int .i64 cnt/\bR=.int .i64 k/\k<=l.length/\n<=64*k/\cnt<=4096*k/\Hid (∀ y∈l.take k,mJ fmt bar (bl y)=0)/\Hid (ds.map jd.pl=mh fmt bar ((l.take k).map bl))/\Hid (cnt=jt (mh fmt bar ((l.take k).map bl)))/\Hid (pt w wr ds O n oc)) (fun _ _ i _=>l.length-(intOf i).toNat)
 case atStart=>exact⟨0,none,0,0,0,[],rfl,rfl,rfl,z0,z0,z0,by simp[Hid],rfl,rfl,pt.start w⟩
 case round=>
  obtain⟨k,O,n,oc,cnt,ds,rfl,rfl,rfl,hk,hn,cE,HN,HO,aU,D0⟩:=hrel;by_cases bw:k<l.length
  ·obtain⟨x,hx⟩:∃ x,l[k]?=some x:=⟨_,gG bw⟩
   obtain⟨b,off,hA,he⟩:=(HR.out.below D0.out.bel).str k x hx;have bC:=fun W=>jm (T:=33) (E:=9) (sz:=1) (c:=c) Tryz.underlying33 rfl Tryz.sizeOf9 hA bw W;simp only[Nat.mul_one] at bC;have bX:=HZ.out x (gM hx);have HX:=iV hx;have aZ:=iV (P7 (fmt:=fmt) (bar:=bar) hx);have bM:=iV (jI hx);clear hx hA;obtain⟨wo,rfl⟩:∃ wo:World,wo=wr:=⟨_,rfl⟩
   go_wp2_with fail;refine(Uq fmt HF.out bar x wo (HG.out.below D0.out.bel) bX).mono ?_;rintro e w1 ⟨A1,m,c1,D,bv,rfl,bp,hm⟩;have B1:=iV bp;clear bp he bC;by_cases J:(kF fmt bar (bl x)).2=0
   rotate_left
   ·rw[if_neg J] at hm;obtain⟨aX,bz,rfl,rfl⟩:=hm;have ad:mJ fmt bar (bl x)=(kF fmt bar (bl x)).2:=by unfold mJ;rw[if_pos J]
    have E:Hid (kZ fmt bar (l.map bl)=(kF fmt bar (bl x)).2):=by show _=_;rw[Rw HF.out HX.out HN.out (by rw[ad];exact J),ad]
    have cc:=iV J;have q:(bv != 0)=true:=by simpa [bne] using aX
    have ck:=iV aX;have ca:=iV bz;clear aX bz J ad;go_wp2;go_ret2;exact Cn (by rw[E.out];exact cc.out) ck.out (fun h=>by rw[E.out] at h |-;exact ca.out h) (jc D0.out.bel B1.out)
   rw[if_pos J] at hm;obtain⟨rfl,aA,aK,U⟩:=hm;have ad:mJ fmt bar (bl x)=sn fmt (kF fmt bar (bl x)).1:=by unfold mJ;rw[if_neg (by rw[J];simp)]
   have av:=iV ad;obtain⟨P,hP⟩:∃ P,(kF fmt bar (bl x)).1=P:=⟨_,rfl⟩
   rw[hP] at aZ av aA U;have ce:=iV aA;have bi:=iV aK;have bs:=iV U;have aH:m=P.length:=by rw[<-aA,List.length_map,aK.len]
   have ct:m<=64:=by rw[aH];exact U.1
   have aC:=iV aH;have bP:=iV (fun h=>Rw (fmt:=fmt) HF.out HX.out HN.out h);clear J ad hP aA aK U aH;go_wp2;go_loopw [9,40] (fun s9 cl wx=>∃ (i cn:Nat) (D':List jd),s9=.int .i64 cn/\cl=.int .i64 i/\i<=m/\cn<=4096*k+64*i/\Hid (cn=cnt+jt (P.take i))/\Hid (D'.map jd.pl=GK fmt P i)/\Hid (∀ y∈P.take i,∀ g∈y.alts,(jG fmt 1 g).2=0)/\Hid (pt wo wx D' A1 m c1)) (fun _ i _=>m-(intOf i).toNat)
   case atStart=>exact⟨0,cnt,D,rfl,rfl,z0,by omega,rfl,by show _=_;rw[PY];exact ce.out,by simp[Hid],bi⟩
   case round=>
    clear bi;obtain⟨i,cn,D',rfl,rfl,cH,cs,bt,aO,bb,M⟩:=hrel;by_cases ah:i<m
    ·have aB:Hid (i<P.length):=by have:=aC.out;show _<_;omega
     obtain⟨X,aj⟩:∃ X,P[i]?=some X:=⟨_,gG aB.out⟩
     obtain⟨d,hd⟩:∃ d,D'[i]?=some d:=⟨_,gG (by rw[M.out.len];exact ah)⟩
     have aF:d.pl=X:=by
      have h1:=congrArg (·[i]?) aO.out;rw[MJ aj] at h1;simp only[List.getElem?_map,hd,Xa aB.out,Option.map_some,Option.some.injEq] at h1;rw[h1];simp
     have af:=iV aj;have HD:=iV hd;have I:Hid (d.bar=X.bar/\d.alts=X.alts):=by rw[<-aF];exact⟨rfl,rfl⟩
     have bm:=gM hd;have ci:d.alts.length<=64:=by rw[I.out.2];exact(bs.out.2 X (gM aj)).1
     have bZ:Hid (∀ g∈X.alts,g.nm.size<=64/\g.ver.size<=64):=(bs.out.2 X (gM aj)).2;have bF:=iV ((M.out.al d bm).lt);obtain⟨b2,cz,bx,aI⟩:=(M.out.ok.row.elem pq i d hd)
     have e0:=aI 0 _ rfl;have e1:=aI 1 _ rfl;simp only[Nat.add_zero] at e0;have cC:=fun W=>jm (T:=30) (E:=75) (sz:=2) (n:=m) (c:=c1) Tryz.underlying30 rfl Tryz.sizeOf75 bx ah W;clear aj hd bx aI aF bm;obtain⟨R,rfl⟩:∃ R:World,R=wr:=⟨_,rfl⟩
     obtain⟨L,ar⟩:∃ L,d.alts=L:=⟨_,rfl⟩
     rw[ar] at ci I;obtain⟨aa,H⟩:∃ aa,d.aa=aa:=⟨_,rfl⟩
     obtain⟨ac,aL⟩:∃ ac,d.ac=ac:=⟨_,rfl⟩
     obtain⟨db,am⟩:∃ db,d.bar=db:=⟨_,rfl⟩
     rw[am] at I;have bY:=e0;rw[am] at bY;have bU:=e1;rw[ar,H,aL] at bU;have bW:=iV ar;have br:=iV H;have bN:=iV aL;have cA:=iV am;clear e0 e1 ar H aL am;obtain⟨W2,ao⟩:∃ W2,R.alloc (.cells #[.bool db,.slice aa L.length ac] 75)=W2:=⟨_,rfl⟩
     have B2:Hid (Below R.heap.size R W2):=by rw[<-ao];exact bR.alloc lr _
     have K2:Hid (jh W2 R.heap.size [.bool db,.slice aa L.length ac]):=by show jh _ _ _;rw[<-ao];exact jh.new R [.bool db,.slice aa L.length ac] _
     have k1:=K2.out.cell 1 _ rfl;have bG:=iV (M.out.below B2.out);have cv:R.heap.size<W2.heap.size:=K2.out.sz;have bf:=iV ao;clear ao;go_upto_region 14 with(fail)
     rw[bf.out];go_wp2_with fail;clear k1 bf;go_loopw [47] (fun s wx=>∃ (j:Nat) (D2:List jd),j<=L.length/\s=.int .i64 j/\Hid (D2.map jd.head=D'.map jd.head)/\Hid (D2.map jd.pl=GJ fmt P i X.bar L j)/\Hid (∀ g∈L.take j,(jG fmt 1 g).2=0)/\Hid (pt wo wx D2 A1 m c1)/\Hid (jh wx R.heap.size [.bool db,.slice aa L.length ac])) (fun i _=>L.length-(intOf i).toNat)
     case atStart=>exact⟨0,D',z0,rfl,rfl,by show _=_;rw[aO.out,MJ af.out,I.out.2],by simp[Hid],bG,K2⟩
     case round=>
      clear bG K2;obtain⟨j,D2,cD,rfl,bq,aY,aN,ab,K3⟩:=hrel;have k1:=K3.out.cell 1 _ rfl;by_cases ag:j<L.length
      ·obtain⟨g,hg⟩:∃ g,L[j]?=some g:=⟨_,gG ag⟩
       have bc:X.alts[j]?=some g:=by rw[<-I.out.2];exact hg
       have cF:=bZ.out g (gM bc);obtain⟨V,ai⟩:∃ V,D2[i]?=some V:=⟨_,gG (by rw[ab.out.len];exact ah)⟩
       obtain⟨cj,ae,aT,aJ⟩:=Xd bq.out ai HD.out;have aW:V.pl=⟨X.bar,(L.take j).map (fun g=>(jG fmt 1 g).1)++L.drop j⟩:=by
        have h1:=congrArg (·[i]?) aY.out;simp only[List.getElem?_map,ai,Xa aB.out,Option.map_some,Option.some.injEq] at h1;exact h1
       have aR:V.alts=(L.take j).map (fun g=>(jG fmt 1 g).1)++L.drop j:=congrArg jA.alts aW;have bE:V.bar=X.bar:=congrArg jA.bar aW;rw[bW.out] at aJ;rw[br.out] at ae;rw[bN.out] at aT;have Y:=ab.out.al V (gM ai);unfold jd.own at Y;obtain⟨g0,cp,hv,_,_⟩:=Y.form (by omega);have H:aa=some ⟨g0,0,none⟩:=by rw[<-ae];injection hv
       have cG:g0<R.heap.size:=by
        refine(bF.out g0 ?_).2;rw[br.out,H];rfl
       obtain⟨b3,bh,ak,an⟩:=(jL Y).elem md j g (by rw[aR];exact MK hg);obtain⟨rfl,rfl⟩:g0=b3/\0=bh:=by rw[ae,H] at ak;injection ak with ak;injection ak with h1 h2 _;exact⟨h1,h2⟩
       have e0:=an 0 _ rfl;have e1:=an 1 _ rfl;have e2:=an 2 _ rfl;simp only[Nat.add_zero,Nat.zero_add] at e0 e1 e2;have bn:=fun W=>jm (T:=34) (E:=78) (sz:=3) (n:=L.length) (c:=ac) Tryz.underlying34 rfl Tryz.sizeOf78 H ag W;simp only[Nat.zero_add] at bn;have aP:=iV hg;have bT:=iV bc;have ba:=iV ai;have bA:=iV aR;have bQ:=iV bE;have aD:=iV H;have HH:=iV (show V.aa=aa/\V.ac=ac/\V.alts.length=L.length from⟨ae,aT,aJ⟩);obtain⟨⟨Z,ec⟩,hr⟩:∃ r,jG fmt 1 g=r:=⟨_,rfl⟩
       have ap:=iV hr;have aM:=iV (fun W hG=>AX fmt 1 g W hG (by omega) (by omega));rw[hr] at aM;unfold jf.val WK at aM;clear hg bc ai cj ae aT aJ aW aR bE Y hv H ak an hr;go_wp2_with fail;refine(aM.out _ (HG.out.below (jc D0.out.bel ab.out.bel)).p).mono ?_;rintro e w5 ⟨rfl,aQ⟩;have bo:=iV (ab.out.below aQ);have K5:=iV (K3.out.below aQ);clear aQ e0 e1 e2 k1 K3 ab;have bd:Hid (Below w5.heap.size w5 (w5.alloc (.cells #[.string Z.nm,.int .i64 Z.op,.string Z.ver] 78))):=bR.alloc lr _;by_cases K:ec≠0
       ·have q:(ec != 0)=true:=by simpa [bne] using K
        have aS:sn fmt P=ec:=by rw[Us af.out bT.out bb.out (by rw[<-I.out.2];exact aN.out) (by rw[ap.out];exact K),ap.out]
        have E:Hid (kZ fmt bar (l.map bl)=ec):=by show _=_;rw[bP.out (by rw[av.out,aS];exact K),av.out,aS]
        have bD:=iV K;clear K aS;go_wp2;go_ret2;exact Cn (by rw[E.out];exact bD.out) bD.out (fun _=>E.out.symm) (jc D0.out.bel (jc bo.out.bel bd.out))
       have aE:ec=0:=Decidable.not_not.1 K;have bV:Hid ((jG fmt 1 g).2=0):=by show _=_;rw[ap.out];exact aE
       subst aE;clear K bd;obtain⟨W6,ay⟩:∃ W6,w5.alloc (.cells #[.string Z.nm,.int .i64 Z.op,.string Z.ver] 78)=W6:=⟨_,rfl⟩
       have B6:Hid (Below w5.heap.size w5 W6):=by rw[<-ay];exact bR.alloc lr _
       have K6:Hid (jh W6 w5.heap.size [.string Z.nm,.int .i64 Z.op,.string Z.ver]):=by show jh _ _ _;rw[<-ay];exact jh.new w5 [.string Z.nm,.int .i64 Z.op,.string Z.ver] _
       have be:=iV (bo.out.below B6.out);have bj:=iV (K5.out.below B6.out);have m0:=K6.out.cell 0 _ rfl;have m1:=K6.out.cell 1 _ rfl;have m2:=K6.out.cell 2 _ rfl;have k1:=bj.out.cell 1 _ rfl;have z:=be.out.al V (gM ba.out);unfold jd.own at z;rw[HH.out.1,aD.out] at z;have f0:=z.frozenAt (j*3);have f1:=z.frozenAt (j*3+1);have f2:=z.frozenAt (j*3+2);obtain⟨b4,bu,au,aq⟩:=(jL z).elem md j g (by rw[bA.out];exact MK aP.out);obtain⟨rfl,rfl⟩:g0=b4/\0=bu:=by injection au with au;injection au with h1 h2 _;exact⟨h1,h2⟩
       have e0:=aq 0 _ rfl;have e1:=aq 1 _ rfl;have e2:=aq 2 _ rfl;simp only[Nat.add_zero,Nat.zero_add] at e0 e1 e2;have cB:R.heap.size<w5.heap.size:=K5.out.sz;have cw:¬ g0=w5.heap.size:=by omega
       have cx:¬ g0=R.heap.size:=by omega
       have cr:¬ R.heap.size=g0:=by omega
       have cy:¬ w5.heap.size=g0:=by omega
       have cu:¬ R.heap.size=w5.heap.size:=by omega
       have cq:¬ w5.heap.size=R.heap.size:=by omega
       have bJ:=iV ay;clear ay z au aq;go_upto_region 18 with(fail)
       rw[bJ.out];go_wp2;go_roundw
       case rel=>
        refine⟨j+1,D2.set i { V with alts:=V.alts.set j Z },by omega,by go_num,by show _=_;rw[Xc ba.out];exact bq.out,?_,iV (fun y F=>?_),?_,?_⟩
        ·show _=_;rw[List.map_set,aY.out];have:=Y3 (fmt:=fmt) (bar:=X.bar) aB.out aP.out;rw[<-this];congr 1;show(⟨V.bar,V.alts.set j Z⟩:jA)=_;rw[bQ.out,bA.out,ap.out]
        ·rw[jI aP.out] at F;rcases List.mem_append.1 F with F | F
         ·exact aN.out y F
         ·rw[List.mem_singleton.1 F];exact bV.out
        ·exact be.out.put ba.out (by rw[HH.out.2.2];exact ag) (by rw[HH.out.1];exact aD.out) rfl
        ·exact((bj.out.far (by omega) _).far (by omega) _).far (by omega) _
       case measure=>simp[intOf];omega
      ·obtain rfl:j=L.length:=by omega
       have co:Hid (X.alts.length=L.length):=by show _=_;rw[<-I.out.2]
       have cm:=iV (PZ af.out);have bI:=iV (jI af.out);have bH:Hid (D2.map jd.pl=GK fmt P (i+1)):=by show _=_;rw[aY.out,I.out.2,Y2 af.out]
       go_wp2;go_roundw
       case rel=>exact⟨i+1,cn+L.length,D2,by go_num,by go_num,by omega,by omega,by show _=_;rw[cm.out,bt.out,co.out];omega,bH,iV (fun y F=>by
        rw[bI.out] at F;rcases List.mem_append.1 F with F | F
        ·exact bb.out y F
        ·rw[List.mem_singleton.1 F];intro g hg;exact aN.out g (by rw[List.take_length,I.out.2];exact hg)),ab⟩
       case measure=>simp[intOf];omega
    ·obtain rfl:i=m:=by omega
     have bO:Hid (mJ fmt bar (bl x)=0):=by
      show _=_;rw[av.out];exact ML (fun y F=>bb.out y (by rw[tL (by have:=aC.out;omega)];exact F))
     have cb:Hid (D'.map jd.pl=P.map (nf fmt 1)):=by show _=_;rw[aO.out,aC.out,Xb]
     have cf:Hid (cn=cnt+jt P):=by show _=_;rw[bt.out,tL (by have:=aC.out;omega)]
     have D1:=iV (D0.out.below M.out.bel);have bL:=iV D1.out.row;have RL:=iV ((jL M.out.row).reads (by omega));have cg:=D1.out.bel.size;have bk:=iV (yL D')
     go_wp2_with (
      at_builtin
      refine je _ rfl _ _ _ rfl w.heap.size 75 i0 _ 2 32 Tryz.underlying30 hi ch bK bS rfl (by omega) (.slice O n oc) n _ rfl bL.out _ A1 i c1 _ rfl RL.out bk.out (by simp only[maxLen];omega) (by omega) cg ?_;intro v1 w6 N bB bg;obtain⟨O1,c2,rfl⟩:=jk N)
     have N1:Hid (pt w w6 (ds++D') O1 (n+i) c2):=D0.out.join M.out N bB;clear N bB bg;go_wp2;go_roundw
     case rel=>exact⟨k+1,O1,n+i,c2,cn,_,rfl,rfl,by go_num,by omega,by omega,by omega,iV (fun y F=>by
      rw[bM.out] at F;rcases List.mem_append.1 F with F | F
      ·exact HN.out y F
      ·rw[List.mem_singleton.1 F];exact bO.out),by show _=_;rw[aZ.out,List.map_append,HO.out,cb.out],by show _=_;rw[aZ.out,Ut,sq,<-aU.out];exact cf.out,N1⟩
     case measure=>simp[intOf];omega
  ·have aG:∀ y∈l,mJ fmt bar (bl y)=0:=fun y F=>HN.out y (by rw[tL (by omega)];exact F);have E:=iV (W8 HF.out aG);have HT:Hid ((l.take k).map bl=l.map bl):=by show _=_;rw[tL (by omega)]
   clear aG;by_cases az:64<cnt
   ·have q1:decide ((64:Int)<(cnt:Int))=true:=dT (by omega);have q2:decide (64<cnt)=true:=dT az;have E4:Hid (kZ fmt bar (l.map bl)=4):=by show _=_;rw[E.out,<-HT.out,<-aU.out,if_pos az]
    go_wp2;go_ret2;exact Cn (by rw[E4.out];decide) (by decide) (fun _=>E4.out.symm) D0.out.bel
   ·have q1:decide ((64:Int)<(cnt:Int))=false:=dF (by omega);have q2:decide (64<cnt)=false:=dF az;have E4:Hid (kZ fmt bar (l.map bl)=0):=by show _=_;rw[E.out,<-HT.out,<-aU.out,if_neg az]
    go_wp2;go_ret2;exact WZ E4.out (by rw[HO.out,HT.out]) D0.out
theorem Fg (a:jf)(w:World)(hG:Ps w)(h1:a.nm.size<=9223372036854775807)(h2:a.ver.size<=9223372036854775807):Calls Tryz.prog 136 #[a.val] w fun e w'=>e=.returned (.int .i64 (mG a))/\Below w.heap.size w w':=by
 have HG:=iV hG;obtain⟨X,H⟩:∃ X,w.alloc (.cells #[.string a.nm,.int .i64 a.op,.string a.ver] 78)=X:=⟨_,rfl⟩
 have J:Hid (Below w.heap.size w X):=by rw[<-H];exact bR.alloc lr _
 have K0:Hid (jh X w.heap.size a.cells):=by show jh _ _ _;rw[<-H];exact jh.new w a.cells _
 have k0:=K0.out.cell 0 _ rfl;have k1:=K0.out.cell 1 _ rfl;have k2:=K0.out.cell 2 _ rfl;have F:=iV fun W=>pE a.nm W h1;have aa:=iV (fun W hG=>EO 1 (.inl rfl) a.ver W hG h2);unfold jf.val;clear hG;cases hn:jZ (bl a.nm)
 ·rw[hn] at F;have E:Hid (mG a=10):=by show _=_;unfold mG;rw[if_pos hn]
  clear hn;go_in;go_wp2_with fail;refine(F.out _).mono ?_;rintro e w' ⟨rfl,rfl⟩;go_wp2;go_ret;exact⟨jz E.out.symm,J.out⟩
 rw[hn] at F;have y:Hid (¬ jZ (bl a.nm)=false):=by show ¬ _;rw[hn];simp
 clear hn;by_cases I:a.op<0
 ·have d1:decide (a.op<0)=true:=dT I;have E:Hid (mG a=1):=by show _=_;unfold mG;rw[if_neg y.out,if_pos (.inl I)]
  clear I;go_in;go_wp2_with fail;refine(F.out _).mono ?_;rintro e w' ⟨rfl,rfl⟩;go_wp2;go_ret;exact⟨jz E.out.symm,J.out⟩
 have d1:decide (a.op<0)=false:=dF I;by_cases N:5<a.op
 ·have d2:decide (5<a.op)=true:=dT N;have E:Hid (mG a=1):=by show _=_;unfold mG;rw[if_neg y.out,if_pos (.inr N)]
  clear I N;go_in;go_wp2_with fail;refine(F.out _).mono ?_;rintro e w' ⟨rfl,rfl⟩;go_wp2;go_ret;exact⟨jz E.out.symm,J.out⟩
 have d2:decide (5<a.op)=false:=dF N;have V:Hid (¬ (a.op<0\/5<a.op)):=by rintro(h | h);exact I h;exact N h
 clear I N;by_cases K:a.op=0
 ·have q:(a.op==0)=true:=by rw[K];rfl
  have z:=iV K;clear K;obtain⟨pb,Y⟩:∃ pb,a.ver.toList.isEmpty=pb:=⟨_,rfl⟩
  have R:=iV Y;cases pb
  ·have E:Hid (mG a=1):=by
    show _=_;unfold mG;rw[if_neg y.out,if_neg V.out,if_pos z.out,if_neg];intro h;have:=R.out;rw[iY,jB,dT h] at this;cases this
   go_in;go_wp2_with fail;refine(F.out _).mono ?_;rintro e w' ⟨rfl,rfl⟩;go_wp2;go_ret;exact⟨jz E.out.symm,J.out⟩
  ·have E:Hid (mG a=0):=by
    show _=_;unfold mG;rw[if_neg y.out,if_neg V.out,if_pos z.out,if_pos];have:=R.out;rw[iY,jB] at this;exact dO this
   go_in;go_wp2_with fail;refine(F.out _).mono ?_;rintro e w' ⟨rfl,rfl⟩;go_wp2;go_ret;exact⟨jz E.out.symm,J.out⟩
 have q:(a.op==0)=false:=by simpa using K
 have z:=iV K;clear K;go_in;go_wp2_with fail;clear H;refine(F.out _).mono ?_;rintro e w' ⟨rfl,rfl⟩;go_wp2_with fail;refine(aa.out _ (HG.out.below J.out)).mono ?_;rintro e w1 ⟨D,rfl,ab,O,Z,U⟩;have B1:=iV (jc J.out U);have B2:=iV (jc B1.out (bR.alloc lr (.cells #[.int .i64 D.ep,.slice D.na D.nums.length D.nc,.string D.lt,.string D.pre,.int .i64 D.pnum,.int .i64 D.rev] 159)));clear ab O Z U;unfold kU.val;by_cases M:qi 1 a.ver≠0
 ·have E:Hid (mG a=11):=by show _=_;unfold mG;rw[if_neg y.out,if_neg V.out,if_neg z.out,if_pos M]
  have q2:(qi 1 a.ver != 0)=true:=by simpa [bne] using M
  generalize qi 1 a.ver=pe at *;clear M;go_wp2;go_ret;exact⟨jz E.out.symm,B2.out⟩
 ·have E:Hid (mG a=0):=by show _=_;unfold mG;rw[if_neg y.out,if_neg V.out,if_neg z.out,if_neg M]
  have q2:(qi 1 a.ver != 0)=false:=by rw[Decidable.not_not.1 M];rfl
  generalize qi 1 a.ver=pe at *;clear M;go_wp2;go_ret;exact⟨jz E.out.symm,B2.out⟩
structure J1 (ds:List jd):Prop where
 len:ds.length<=1000
 al:∀ d∈ds,d.alts.length<=1000
 nm:∀ d∈ds,∀ g∈d.alts,g.nm.size<=1000
 ver:∀ d∈ds,∀ g∈d.alts,g.ver.size<=1000
theorem Uu {l:List jA}(h:64<jt l):pD l=4:=by unfold pD;rw[if_pos h]
theorem aav {ds:List jd}{d:jd}(h:¬ 64<jt (ds.map jd.pl))(hd:ds[k]?=some d)(h0:∀ y∈ds.take k,vP y.pl=0)(he:vP d.pl≠0):pD (ds.map jd.pl)=vP d.pl:=by
 unfold pD;rw[if_neg h];refine tM (k:=k) (by simp[hd]) (fun y D=>?_) he;rw[<-List.map_take] at D;obtain⟨z,F,rfl⟩:=List.mem_map.1 D;exact h0 z F
theorem Xe {ds:List jd}(h:¬ 64<jt (ds.map jd.pl))(h0:∀ y∈ds,vP y.pl=0):pD (ds.map jd.pl)=0:=by
 unfold pD;rw[if_neg h,jM];intro y F;obtain⟨z,D,rfl⟩:=List.mem_map.1 F;exact h0 z D
theorem MM {ds:List jd}{i:Nat}{d:jd}(h:ds[i]?=some d):jt ((ds.take (i+1)).map jd.pl)=jt ((ds.take i).map jd.pl)+d.alts.length:=by
 unfold jt;rw[jI h,List.map_append,List.map_append,List.sum_append];simp[jd.pl]
theorem P8 (A:Option Addr)(c:Nat)(ds:List jd)(w:World)(hG:Ps w)(hd:qm w A ds)(hf:J1 ds):Calls Tryz.prog 82 #[.slice A ds.length c] w fun e w'=>e=.returned (.int .i64 (pD (ds.map jd.pl)))/\Below w.heap.size w w':=by
 have HG:=iV hG;have HD:=iV hd;have HF:=iV hf;have aL:=hf.len;clear hG hd hf;go_in;go_wp2;go_loopw [3,13] (fun s3 aG wr=>∃ k cnt:Nat,k<=ds.length/\cnt<=1000*k/\s3=.int .i64 cnt/\aG=.int .i64 k/\Hid (cnt=jt ((ds.take k).map jd.pl))/\Hid (Below w.heap.size w wr)) (fun _ i _=>ds.length-(intOf i).toNat)
 case atStart=>exact⟨0,0,z0,z0,rfl,rfl,rfl,bR⟩
 case round=>
  obtain⟨k,cnt,hk,hc,rfl,rfl,HC,Y⟩:=hrel;by_cases J:k<ds.length
  ·obtain⟨d,z⟩:∃ d,ds[k]?=some d:=⟨_,gG J⟩
   obtain⟨b,off,hA,V⟩:=(HD.out.row.below Y.out).elem pq k d z;have e0:=V 0 _ rfl;have e1:=V 1 _ rfl;simp only[Nat.add_zero] at e0;have ax:=fun W=>jm (T:=30) (E:=75) (sz:=2) (c:=c) Tryz.underlying30 rfl Tryz.sizeOf75 hA J W;have au:=HF.out.al d (gM z);have aJ:=iV (MM z);clear z hA V;obtain⟨K,H⟩:∃ K,wr.alloc (.cells #[.bool d.bar,.slice d.aa d.alts.length d.ac] 75)=K:=⟨_,rfl⟩
   have B2:Hid (Below wr.heap.size wr K):=by rw[<-H];exact bR.alloc lr _
   have K2:Hid (jh K wr.heap.size d.cells):=by show jh _ _ _;rw[<-H];exact jh.new wr d.cells _
   have k1:=K2.out.cell 1 _ rfl;go_wp2;go_roundw
   case rel=>exact⟨k+1,cnt+d.alts.length,by omega,by omega,by go_num,by go_num,by show _=_;rw[aJ.out,<-HC.out],jc Y.out B2.out⟩
   case measure=>simp[intOf];omega
  ·have aq:Hid (cnt=jt (ds.map jd.pl)):=by show _=_;rw[HC.out,tL (by omega)]
   by_cases N:64<cnt
   ·have q1:decide ((64:Int)<(cnt:Int))=true:=dT (by omega);have q2:decide (64<cnt)=true:=dT N;have E:=iV (Uu (l:=ds.map jd.pl) (by rw[<-aq.out];exact N));go_wp2;go_ret;exact⟨jz E.out.symm,Y.out⟩
   have q1:decide ((64:Int)<(cnt:Int))=false:=dF (by omega);have q2:decide (64<cnt)=false:=dF N;have Z:Hid (¬ 64<jt (ds.map jd.pl)):=by rw[<-aq.out];exact N
   have af:=iV (fun (k:Nat) (d:jd) z h0 V=>aav (ds:=ds) (k:=k) (d:=d) Z.out z h0 V);obtain⟨wa,rfl⟩:∃ wa:World,wa=wr:=⟨_,rfl⟩
   go_wp2_with fail;clear q1 q2 N J;go_loopw [27] (fun i wr=>∃ k:Nat,k<=ds.length/\i=.int .i64 k/\Hid (∀ y∈ds.take k,vP y.pl=0)/\Hid (Below w.heap.size w wr)) (fun i _=>ds.length-(intOf i).toNat)
   case atStart=>exact⟨0,z0,rfl,by simp[Hid],Y⟩
   case round=>
    clear Y;obtain⟨k,hk,rfl,HZ,Y⟩:=hrel;by_cases J:k<ds.length
    ·obtain⟨d,z⟩:∃ d,ds[k]?=some d:=⟨_,gG J⟩
     obtain⟨b,off,hA,V⟩:=(HD.out.row.below Y.out).elem pq k d z;have e0:=V 0 _ rfl;have e1:=V 1 _ rfl;simp only[Nat.add_zero] at e0;have ax:=fun W=>jm (T:=30) (E:=75) (sz:=2) (c:=c) Tryz.underlying30 rfl Tryz.sizeOf75 hA J W;have hm:=gM z;have au:=HF.out.al d hm;have aE:=iV (HF.out.nm d hm);have aB:=iV (HF.out.ver d hm);have aj:=iV z;have az:=iV (jI z);have aK:=iV (HD.out.all d hm);clear z hA V hm;obtain⟨wo,rfl⟩:∃ wo:World,wo=wr:=⟨_,rfl⟩
     obtain⟨R,ad⟩:∃ R,d.bar=R:=⟨_,rfl⟩
     have ay:=iV ad;obtain⟨D,O⟩:∃ D,d.alts.length=D:=⟨_,rfl⟩
     rw[ad] at e0;rw[O] at e1 au;have an:=iV O;clear ad O;obtain⟨K,H⟩:∃ K,wo.alloc (.cells #[.bool R,.slice d.aa D d.ac] 75)=K:=⟨_,rfl⟩
     have B2:Hid (Below wo.heap.size wo K):=by rw[<-H];exact bR.alloc lr _
     have K2:Hid (jh K wo.heap.size [.bool R,.slice d.aa D d.ac]):=by show jh _ _ _;rw[<-H];exact jh.new wo [.bool R,.slice d.aa D d.ac] _
     have k0:=K2.out.cell 0 _ rfl;have k1:=K2.out.cell 1 _ rfl;have BW:=iV (jc Y.out B2.out);have ar:vP d.pl=if D=0\/(R=true/\1<D) then 3 else lY mG d.alts:=by
      unfold vP;show(if d.alts.length=0\/d.bar=true/\1<d.alts.length then 3 else lY mG d.alts)=_;rw[an.out,ay.out]
     have I:=iV ar;clear ar;by_cases z0:D=0
     ·have q:((D:Int)==0)=true:=by rw[z0];rfl
      have E:Hid (pD (ds.map jd.pl)=3):=by show _=_;rw[af.out k d aj.out HZ.out (by rw[I.out,if_pos (.inl z0)];decide),I.out,if_pos (.inl z0)]
      clear z0;go_wp2;go_ret;exact⟨jz E.out.symm,BW.out⟩
     have q:((D:Int)==0)=false:=beq_eq_false_iff_ne.2 (by omega);by_cases X:R=true/\1<D
     ·have E:Hid (pD (ds.map jd.pl)=3):=by show _=_;rw[af.out k d aj.out HZ.out (by rw[I.out,if_pos (.inr X)];decide),I.out,if_pos (.inr X)]
      obtain⟨rfl,X⟩:=X;have q1:decide ((1:Int)<(D:Int))=true:=dT (by omega);have q2:decide (1<D)=true:=dT X;clear z0;go_wp2;go_ret;exact⟨jz E.out.symm,BW.out⟩
     have ai:Hid (vP d.pl=lY mG d.alts):=by show _=_;rw[I.out,if_neg];rintro(h | h);exact z0 h;exact X h
     have M:R=false\/R=true/\decide ((1:Int)<(D:Int))=false/\decide (1<D)=false:=by
      cases R with
      | false=>exact .inl rfl
      | true=>right;exact⟨rfl,dF (fun h=>X ⟨rfl,by omega⟩),dF (fun h=>X ⟨rfl,h⟩)⟩
     clear X I;go_upto_region 12 with(fail)
     clear H e0 e1 ax;go_cut [44] (fun s wx=>s=.bool false/\K=wx)
     case first=>
      rcases M with rfl | ⟨rfl,q1,q2⟩
      ·go_wp2;go_meet;exact⟨rfl,by trivial⟩
      ·go_wp2;go_meet;exact⟨rfl,by trivial⟩
     case rest=>
     obtain⟨rfl,rfl⟩:=hcut;clear M z0;go_wp2;go_loopw [48] (fun i wx=>∃ j:Nat,j<=D/\i=.int .i64 j/\Hid (∀ y∈d.alts.take j,mG y=0)/\Hid (Below w.heap.size w wx)/\Hid (Below K.heap.size K wx)) (fun i _=>D-(intOf i).toNat)
     case atStart=>exact⟨0,z0,rfl,by simp[Hid],BW,bR⟩
     case round=>
      obtain⟨j,aP,rfl,HE,BJ,aH⟩:=hrel;by_cases ab:j<D
      ·obtain⟨g,hg⟩:∃ g,d.alts[j]?=some g:=⟨_,gG (by rw[an.out];exact ab)⟩
       have ae:=gM hg;obtain⟨b2,aM,av,U⟩:=(aK.out.below BJ.out).elem md j g hg;have e0:=U 0 _ rfl;have e1:=U 1 _ rfl;have e2:=U 2 _ rfl;simp only[Nat.add_zero] at e0;have aN:=fun W=>jm (T:=34) (E:=78) (sz:=3) (n:=D) (c:=d.ac) Tryz.underlying34 rfl Tryz.sizeOf78 av ab W;have aQ:=aE.out g ae;have aO:=aB.out g ae;have aF:=iV (jI hg);have aD:=iV hg;have ap:=iV (fun W hG=>Fg g W hG (by omega) (by omega));unfold jf.val at ap;clear hg av U ae;obtain⟨W4,am⟩:∃ W4,wr.alloc (.cells #[.string g.nm,.int .i64 g.op,.string g.ver] 78)=W4:=⟨_,rfl⟩
       have B4:Hid (Below wr.heap.size wr W4):=by rw[<-am];exact bR.alloc lr _
       have K4:Hid (jh W4 wr.heap.size g.cells):=by show jh _ _ _;rw[<-am];exact jh.new wr g.cells _
       have k0:=K4.out.cell 0 _ rfl;have k1:=K4.out.cell 1 _ rfl;have k2:=K4.out.cell 2 _ rfl;go_wp2_with fail;clear am;refine(ap.out _ (HG.out.below (jc BJ.out B4.out))).mono ?_;rintro e w5 ⟨rfl,ah⟩;have B5:=iV (jc (jc BJ.out B4.out) ah);have aA:=iV (jc (jc aH.out B4.out) ah);clear ah;by_cases hz:mG g≠0
       ·have q5:(mG g != 0)=true:=by simpa [bne] using hz
        have ao:lY mG d.alts=mG g:=tM aD.out HE.out hz;have E:Hid (pD (ds.map jd.pl)=mG g):=by show _=_;rw[af.out k d aj.out HZ.out (by rw[ai.out,ao];exact hz),ai.out,ao]
        generalize mG g=ag at *;clear hz ao;go_wp2;go_ret;exact⟨jz E.out.symm,B5.out⟩
       ·have q5:(mG g != 0)=false:=by rw[Decidable.not_not.1 hz];rfl
        have aC:=iV (Decidable.not_not.1 hz);obtain⟨ag,ak⟩:∃ ag,mG g=ag:=⟨_,rfl⟩
        rw[ak] at q5;rw[ak];clear hz ak;go_wp2;go_roundw
        case rel=>exact⟨j+1,by omega,by go_num,iV (fun y F=>by
         rw[aF.out] at F;rcases List.mem_append.1 F with F | F
         ·exact HE.out y F
         ·rw[List.mem_singleton.1 F];exact aC.out),B5,aA⟩
        case measure=>simp[intOf];omega
      ·have aI:Hid (vP d.pl=0):=by
        show _=_;rw[ai.out,jM];intro y F;exact HE.out y (by rw[tL (by have:=an.out;omega)];exact F)
       go_wp2;go_roundw
       case rel=>exact⟨k+1,by omega,by go_num,iV (fun y F=>by
        rw[az.out] at F;rcases List.mem_append.1 F with F | F
        ·exact HZ.out y F
        ·rw[List.mem_singleton.1 F];exact aI.out),BJ⟩
       case measure=>simp[intOf];omega
    ·have E:Hid (pD (ds.map jd.pl)=0):=Xe Z.out (fun y F=>HZ.out y (by rw[tL (by omega)];exact F));go_wp2;go_ret;exact⟨jz E.out.symm,Y.out⟩
theorem Uv {d:jd}{g:jf}(h:d.alts=[g])(h0:0<=g.op):(qk d.pl).cells=[.bool d.bar,.string g.nm,.int .i64 g.op,.string g.ver]:=by
 have e:qk d.pl=⟨d.bar,bl g.nm,g.op.toNat,bl g.ver⟩:=by
  unfold qk jd.pl;simp only;rw[h]
 rw[e];unfold mo.cells;simp only;rw[oQ,oQ,Int.toNat_of_nonneg h0]
def rg (B:Nat)(w:World)(A:Option Addr)(c:Nat)(xs:List BA):Prop:=w.ownsRow B 9 1 (.slice A xs.length c) xs.length (strCells xs)
theorem rg.below (h:rg B w A c xs)(hb:Below w.heap.size w w'):rg B w' A c xs:=jp h hb
theorem rg.mono {B':Nat}(h:rg B w A c xs)(hb:B'<=B):rg B' w A c xs:=by
 refine⟨h.1,?_⟩;rcases h.2 with y | ⟨g,cap,z,y,F,D⟩
 ·exact .inl y
 ·exact .inr ⟨g,cap,z,y,Nat.le_trans hb F,D⟩
theorem rg.nil (B:Nat)(w:World):rg B w none 0 []:=World.ownsRow_nil _ _ _ _
theorem MN (w:World)(s:BA)(hB:B<=w.heap.size):rg B (w.alloc (.cells #[.string s] 9)) (some ⟨w.heap.size,0,none⟩) 1 [s]:=
 World.ownsRow_lit w #[.string s] 1 hB (by decide) rfl
theorem P9 (A:Option Addr)(c:Nat)(ds:List jd)(w:World)(hG:Gl w)(hd:qm w A ds)(hl:ds.length<=64)(ht:∀ d∈ds,d.pl.told 3):Calls Tryz.prog 85 #[.slice A ds.length c] w fun e w'=>∃ (A1:Option Addr) (c1:Nat) (ns:List BA),e=.returned (.tuple #[.slice A1 ns.length c1,.int .i64 0])/\Below w.heap.size w w'/\rg w.heap.size w' A1 c1 ns/\ns.map bl=kE 3 false (ds.map jd.pl):=by
 obtain⟨i0,hi,ay,ao,av⟩:=info_parts Hn;have HG:=iV hG;have HD:=iV hd;have I:Hid (∀ d∈ds,∃ g,d.alts=[g]/\g.told 3):=by
  intro d M;have h:=ht d M;have h1:d.alts.length=1:=h.apk rfl
  match N:d.alts with
  | []=>rw[N] at h1;simp at h1
  | [g]=>exact⟨g,rfl,h.each g (by show g∈d.alts;rw[N];simp)⟩
  | g::g2::r=>rw[N] at h1;simp at h1
 have aB:Hid (∀ x∈(ds.map jd.pl).map qk,x.right):=by
  intro x hx;obtain⟨p,hp,rfl⟩:=List.mem_map.1 hx;obtain⟨d,M,rfl⟩:=List.mem_map.1 hp;obtain⟨g,e,Y⟩:=I.out d M;have:qk d.pl=⟨d.bar,bl g.nm,g.op.toNat,bl g.ver⟩:=by unfold qk jd.pl;simp only;rw[e]
  rw[this];exact(EZ d.bar Y).right
 have R:Hid (kE 3 false (ds.map jd.pl)=if ds.map jd.pl=[] then [] else [mf ((ds.map jd.pl).map qk)]):=by
  show _=_;unfold kE;rw[if_neg (by decide),if_neg (by decide)];simp
 clear hG hd ht;by_cases h0:ds.length=0
 ·have q:((ds.length:Int)==0)=true:=by rw[h0];rfl
  have E:Hid (kE 3 false (ds.map jd.pl)=[]):=by show _=_;rw[R.out,if_pos (by rw[List.length_eq_zero_iff.1 h0];rfl)]
  clear h0;go_in;go_wp2;go_ret2;exact⟨none,0,[],rfl,bR,rg.nil _ _,by rw[E.out];rfl⟩
 have q:((ds.length:Int)==0)=false:=beq_eq_false_iff_ne.2 (by omega);have E:Hid (kE 3 false (ds.map jd.pl)=[mf ((ds.map jd.pl).map qk)]):=by
  show _=_;rw[R.out,if_neg];intro e;apply h0;have:=congrArg List.length e;simpa using this
 clear h0 R;go_in;go_wp2_with fail;clear q;go_loopw [4,14] (fun s4 aA wr=>∃ (k:Nat) (O:Option Addr) (oc:Nat),k<=ds.length/\s4=.slice O k oc/\aA=.int .i64 k/\Hid (wr.ownsRow w.heap.size 142 4 (.slice O k oc) k (((ds.map jd.pl).map qk).take k |>.flatMap mo.cells))/\Hid (Below w.heap.size w wr)) (fun _ i _=>ds.length-(intOf i).toNat)
 case atStart=>exact⟨0,none,0,z0,rfl,rfl,by simpa [Hid] using World.ownsRow_nil w _ _ _,bR⟩
 case round=>
  obtain⟨k,O,oc,hk,rfl,rfl,HO,HB⟩:=hrel;by_cases ai:k<ds.length
  ·obtain⟨d,D⟩:∃ d,ds[k]?=some d:=⟨_,gG ai⟩
   have M:=gM D;obtain⟨b,off,hA,N⟩:=(HD.out.row.below HB.out).elem pq k d D;have e0:=N 0 _ rfl;have e1:=N 1 _ rfl;simp only[Nat.add_zero] at e0;have aE:=fun W=>jm (T:=30) (E:=75) (sz:=2) (c:=c) Tryz.underlying30 rfl Tryz.sizeOf75 hA ai W;obtain⟨g,Y,ah⟩:=I.out d M;have U:=(HD.out.all d M).below HB.out;rw[Y] at U;have z:d.alts.length=1:=by rw[Y];rfl
   rw[z] at e1;have af:Hid ((((ds.map jd.pl).map qk).take (k+1)).flatMap mo.cells=(((ds.map jd.pl).map qk).take k).flatMap mo.cells++[.bool d.bar,.string g.nm,.int .i64 g.op,.string g.ver]):=by
    show _=_;rw[jI (l:=(ds.map jd.pl).map qk) (x:=qk d.pl) (by simp[D]),List.flatMap_append,<-Uv Y ah.op0];simp
   have aq:=iV U;obtain⟨X,ad⟩:∃ X,d.bar=X:=⟨_,rfl⟩
   rw[ad] at e0 af;clear D hA N M Y ah U z ad;obtain⟨J,H⟩:∃ J,wr.alloc (.cells #[.bool X,.slice d.aa 1 d.ac] 75)=J:=⟨_,rfl⟩
   have B2:Hid (Below wr.heap.size wr J):=by rw[<-H];exact bR.alloc lr _
   have K2:Hid (jh J wr.heap.size [.bool X,.slice d.aa 1 d.ac]):=by show jh _ _ _;rw[<-H];exact jh.new wr [.bool X,.slice d.aa 1 d.ac] _
   have k0:=K2.out.cell 0 _ rfl;have k1:=K2.out.cell 1 _ rfl;obtain⟨b2,al,aj,F⟩:=(Rd.elem (l:=[g]) md (aq.out.below B2.out) 0 g rfl)
   have g0:=F 0 _ rfl;have g1:=F 1 _ rfl;have g2:=F 2 _ rfl;simp only[Nat.add_zero,Nat.zero_mul] at g0 g1 g2;have aC:∀ W,(Instr.indexAt 34 (.slice d.aa 1 d.ac) (.int .i64 0)).run Tryz.prog W=.ok (.pointer (some ⟨b2,al,none⟩)) W:=fun W=>by
    have:=jm (T:=34) (E:=78) (sz:=3) (n:=1) (k:=0) (c:=d.ac) Tryz.underlying34 rfl Tryz.sizeOf78 aj (by omega) W;simpa using this
   have ae:=iV (jp HO.out B2.out);have BW:=iV (jc HB.out B2.out);have ax:=BW.out.size;clear aj F;have an:=iV H;clear H;go_upto_region 7 with(fail)
   rw[an.out]
   go_region_law
    ((refine kr _ (by rfl) _ _ _ (by rfl) w.heap.size 142 i0 _ 4 48 Tryz.underlying87 hi ay ao av rfl (by omega) (.slice O k oc) k _ (by rfl) ((ae.out.alloc _).drew)
       (J.heap.size+1) (some ⟨J.heap.size,0,none⟩) 1 1 [.bool X,.string g.nm,.int .i64 g.op,.string g.ver] (by rfl) (Di J _ _ _ _ _) (by simp[Value.oneCell']) (by unfold maxLen;omega) (by omega) (by simp;omega) ?_
      intro v1 w6 y ak ab;obtain⟨O1,c1,rfl⟩:=jk y))
   all_goals
    have ap:Hid (Below w.heap.size w w6):=((BW.out.alloc ax (.cells #[.bool X,.string g.nm,.int .i64 g.op,.string g.ver] 142)).drew).grown ak (by simp;omega) (fun q hq=>(ae.out.lt q hq).1);have O6:Hid (w6.ownsRow w.heap.size 142 4 (.slice O1 (k+1) c1) (k+1) ((((ds.map jd.pl).map qk).take (k+1)).flatMap mo.cells)):=by
     show World.ownsRow _ _ _ _ _ _ _;rw[af.out];exact y
    clear y ak ab;go_wp2;go_roundw
    case rel=>exact⟨k+1,O1,c1,by omega,rfl,by go_num,O6,ap⟩
    case measure=>simp[intOf];omega
  ·have au:Hid (Rd wr 4 O ((ds.map jd.pl).map qk).length (((ds.map jd.pl).map qk).flatMap mo.cells)):=by
    have h:=jL HO.out;rw[tL (by simp;omega)] at h;show Rd _ _ _ _ _;rw[show((ds.map jd.pl).map qk).length=k by simp;omega];exact h
   have K:k=((ds.map jd.pl).map qk).length:=by simp;omega
   have aD:=iV K;have ar:((ds.map jd.pl).map qk).length<=64:=by simp;omega
   have am:=iV (wR O oc _ aB.out ar wr (HG.out.below HB.out) au.out);rw[<-K] at am;clear K;go_wp2_with fail;refine am.out.mono ?_;rintro e w5 ⟨rfl,ag⟩;have B5:=iV (jc HB.out ag);clear ag;obtain⟨Z,V⟩:∃ Z,ke (mf ((ds.map jd.pl).map qk))=Z:=⟨_,rfl⟩
   have az:Hid (bl Z=mf ((ds.map jd.pl).map qk)):=by show _=_;rw[<-V,lS]
   rw[V];clear V;have RT:=iV (MN (B:=w.heap.size) w5 Z B5.out.size);have B6:=iV (jc B5.out (bR.alloc lr (.cells #[.string Z] 9)));go_wp2;go_ret2;exact⟨some ⟨w5.heap.size,0,none⟩,1,[Z],rfl,B6.out,RT.out,by rw[E.out,List.map_singleton,az.out]⟩
def Ny (g:jf):kX:=⟨g.nm,g.op.toNat,g.ver,⟨#[]⟩,none,0,[]⟩
theorem aaw (g:jf):(Ny g).pl=tN g:=by unfold Ny tN kX.pl;simp[bl]
theorem Xg {g:jf}(h:0<=g.op):(Ny g).cells=[.string g.nm,.int .i64 g.op,.string g.ver,.string ⟨#[]⟩,.slice none 0 0]:=by
 unfold Ny kX.cells;simp only[List.length_nil];rw[Int.toNat_of_nonneg h]
theorem aax (w:World)(lo:Nat)(g:jf):(Ny g).own w lo:=World.ownsRow_nil _ _ _ _
theorem Xh {t:kP}(h:t.bare):t.good:=by
 refine⟨?_,h.op,h.none,by rw[h.archs];simp⟩;unfold kP.right;rw[h.name,h.qual,h.archs];by_cases y:t.op=0
 ·simp[y]
 ·simp[y,(h.ver y).1]
def yN (bar:Bool)(l:List jA):List (List kP):=(jY bar l).map fun d=>d.alts.map tN
theorem Xi {l:List jA}(h:∀ d∈l,d.told 1)(hc:jt l<=64):rx (yN bar l):=by
 refine⟨fun g z=>?_,fun g z t ht=>?_,?_⟩
 ·obtain⟨d,y,rfl⟩:=List.mem_map.1 z;simpa using(h d (mi y).1).ne
 ·obtain⟨d,y,rfl⟩:=List.mem_map.1 z;obtain⟨a,D,rfl⟩:=List.mem_map.1 ht;exact Xh (Ac ((h d (mi y).1).each a D))
 ·have:=qF bar l;have e:(yN bar l).map List.length=(jY bar l).map fun d=>d.alts.length:=by
   unfold yN;rw[List.map_map];exact List.map_congr_left fun d _=>by simp
  rw[e];unfold jt at *;omega
theorem II (bar:Bool)(l:List jA):kE 1 bar l=if yN bar l=[] then [] else [lO (yN bar l)]:=by
 unfold kE yN;rw[if_pos rfl];simp
theorem MP {l:List jd}{d:jd}(h:l[k]?=some d):yN bar ((l.take (k+1)).map jd.pl)=yN bar ((l.take k).map jd.pl)++(if d.bar=bar then [d.alts.map tN] else []):=by
 unfold yN;rw[jI h,List.map_append];unfold jY;rw[List.filter_append,List.map_append];congr 1;by_cases y:d.bar=bar
 ·rw[if_pos y];simp[jd.pl,y]
 ·rw[if_neg y];simp[jd.pl,y]
structure MQ (w wr:World) (gs:List jE) (A1:Option Addr) (n1 c1:Nat) (bs:List jE) (A2:Option Addr) (n2 c2:Nat):Prop where
 r1:wr.ownsRow w.heap.size 198 1 (.slice A1 n1 c1) n1 (gs.map jE.sl)
 r2:wr.ownsRow w.heap.size 198 1 (.slice A2 n2 c2) n2 (bs.map jE.sl)
 ne:∀ g,(Value.slice A1 n1 c1).ownBlock=some g->(Value.slice A2 n2 c2).ownBlock≠some g
 g1:∀ g∈gs,g.own wr w.heap.size
 g2:∀ g∈bs,g.own wr w.heap.size
 l1:gs.length=n1
 l2:bs.length=n2
 bel:Below w.heap.size w wr
theorem MQ.start (w:World):MQ w w [] none 0 0 [] none 0 0:=⟨World.ownsRow_nil _ _ _ _,World.ownsRow_nil _ _ _ _,by simp[Value.ownBlock],by simp,by simp,rfl,rfl,bR⟩
theorem MQ.below {gs bs:List jE}(h:MQ w wr gs A1 n1 c1 bs A2 n2 c2)(hb:Below wr.heap.size wr w'):MQ w w' gs A1 n1 c1 bs A2 n2 c2:=
 ⟨jp h.r1 hb,jp h.r2 hb,h.ne,fun g y=>(h.g1 g y).below hb,fun g y=>(h.g2 g y).below hb,h.l1,h.l2,jc h.bel hb⟩
theorem MQ.ok1 {gs bs:List jE}(h:MQ w wr gs A1 n1 c1 bs A2 n2 c2):nu wr w.heap.size A1 n1 c1 gs:=⟨h.l1,h.r1,h.g1⟩
theorem MQ.ok2 {gs bs:List jE}(h:MQ w wr gs A1 n1 c1 bs A2 n2 c2):nu wr w.heap.size A2 n2 c2 bs:=⟨h.l2,h.r2,h.g2⟩
theorem MQ.add1 {gs bs:List jE}{B1:Option Addr}{d1:Nat}{s:jE}(h:MQ w wr gs A1 n1 c1 bs A2 n2 c2)(hs:s.own wr w.heap.size)
  (hr:w2.ownsRow w.heap.size 198 1 (.slice B1 (n1+1) d1) (n1+1) (gs.map jE.sl++[s.sl]))(hg:(wr.alloc o).grownBy w2 (Value.slice A1 n1 c1).ownBlock)
  (ha:(Value.slice B1 (n1+1) d1).ownBlock=(Value.slice A1 n1 c1).ownBlock\/(Value.slice B1 (n1+1) d1).ownBlock=some (wr.alloc o).heap.size):MQ w w2 (gs++[s]) B1 (n1+1) d1 bs A2 n2 c2:=by
 have F:=(Below.refl wr.heap.size wr).alloc lr o;have z:=h.below F;have D:=hs.below F;refine⟨by rw[List.map_append];exact hr,z.r2.kept hg ?_,fun g y=>?_,fun t ht=>?_,fun t ht=>(z.g2 t ht).other z.r1 hg,by simp[h.l1],h.l2,z.bel.grown hg z.bel.size (fun j H=>(z.r1.lt j H).1)⟩
 ·cases hq:(Value.slice A2 n2 c2).ownBlock with
  | none=>exact .inl rfl
  | some g=>right;intro e;exact h.ne g e.symm hq
 ·rcases ha with ha | ha
  ·rw[ha] at y;exact h.ne g y
  ·rw[ha] at y;injection y with y;intro e;have:=(z.r2.lt g e).2;omega
 ·rcases List.mem_append.1 ht with ht | ht
  ·exact(z.g1 t ht).other z.r1 hg
  ·obtain rfl:=List.mem_singleton.1 ht;exact D.other z.r1 hg
theorem MQ.add2 {gs bs:List jE}{B2:Option Addr}{d2:Nat}{s:jE}(h:MQ w wr gs A1 n1 c1 bs A2 n2 c2)(hs:s.own wr w.heap.size)
  (hr:w2.ownsRow w.heap.size 198 1 (.slice B2 (n2+1) d2) (n2+1) (bs.map jE.sl++[s.sl]))(hg:(wr.alloc o).grownBy w2 (Value.slice A2 n2 c2).ownBlock)
  (ha:(Value.slice B2 (n2+1) d2).ownBlock=(Value.slice A2 n2 c2).ownBlock\/(Value.slice B2 (n2+1) d2).ownBlock=some (wr.alloc o).heap.size):MQ w w2 gs A1 n1 c1 (bs++[s]) B2 (n2+1) d2:=by
 have F:=(Below.refl wr.heap.size wr).alloc lr o;have y:=h.below F;have D:=hs.below F;refine⟨y.r1.kept hg ?_,by rw[List.map_append];exact hr,fun g z=>?_,fun t ht=>(y.g1 t ht).other y.r2 hg,fun t ht=>?_,h.l1,by simp[h.l2],y.bel.grown hg y.bel.size (fun j H=>(y.r2.lt j H).1)⟩
 ·cases hq:(Value.slice A1 n1 c1).ownBlock with
  | none=>exact .inl rfl
  | some g=>right;intro e;exact h.ne g hq e.symm
 ·rcases ha with ha | ha
  ·rw[ha];exact h.ne g z
  ·rw[ha];intro e;injection e with e;have:=(y.r1.lt g z).2;omega
 ·rcases List.mem_append.1 ht with ht | ht
  ·exact(y.g2 t ht).other y.r2 hg
  ·obtain rfl:=List.mem_singleton.1 ht;exact D.other y.r2 hg
structure U8 (W0 wr:World) (dv:List Value) (G:Option Addr) (j gc:Nat) (L:List jf):Prop where
 bel:Below W0.heap.size W0 wr
 dbx:jh wr W0.heap.size dv
 own:wr.ownsRow (W0.heap.size+1) 196 5 (.slice G j gc) j ((L.map Ny).flatMap kX.cells)
 len:L.length=j
 sz:W0.heap.size+1<=wr.heap.size
theorem U8.step {L:List jf}(h:U8 W0 wr dv G j gc L)(hb:Below wr.heap.size wr w'):U8 W0 w' dv G j gc L:=
 ⟨jc h.bel hb,h.dbx.below hb,jp h.own hb,h.len,Nat.le_trans h.sz hb.size⟩
theorem U8.app {w6:World}{G1:Option Addr}{L:List jf}{x:jf}(h:U8 W0 wr dv G j gc L)(o:Obj)
  (hown:w6.ownsRow (W0.heap.size+1) 196 5 (.slice G1 (j+1) c1) (j+1) ((L.map Ny).flatMap kX.cells++(Ny x).cells))(hg:(wr.alloc o).grownBy w6 (Value.slice G j gc).ownBlock):
  U8 W0 w6 dv G1 (j+1) c1 (L++[x]):=by
 have sz:=h.sz;have D:∀ g,(Value.slice G j gc).ownBlock=some g->W0.heap.size+1<=g:=fun g z=>(h.own.lt g z).1;have H:some W0.heap.size≠(Value.slice G j gc).ownBlock:=fun e=>by have:=D _ e.symm;omega
 refine⟨(h.bel.alloc h.bel.size o).grown hg (by have:=h.bel.size;simp;omega) (fun i y=>by have:=D i y;omega),(h.dbx.alloc o).grownR hg H,?_,by simp[h.len],?_⟩
 ·rw[List.map_append,List.flatMap_append];simpa using hown
 ·have F:=hg.size;simp at F;omega
theorem U8.grp {L:List jf}(h:U8 W0 wr dv G j gc L):(⟨G,gc,L.map Ny⟩:jE).own wr (W0.heap.size+1):=by
 refine⟨?_,fun t ht=>?_⟩
 ·unfold jE.sl;simp only[List.length_map];rw[h.len];exact h.own
 ·obtain⟨g,_,rfl⟩:=List.mem_map.1 ht;exact aax _ _ _
theorem U8.sl {L:List jf}(h:U8 W0 wr dv G j gc L):(⟨G,gc,L.map Ny⟩:jE).sl=.slice G j gc:=by
 unfold jE.sl;simp only[List.length_map];rw[h.len]
theorem Xj (G:Option Addr)(gc:Nat)(L:List jf):(⟨G,gc,L.map Ny⟩:jE).pl=L.map tN:=by
 unfold jE.pl;simp only;rw[List.map_map];exact List.map_congr_left fun g _=>aaw g
def aay (N:List (LU))(w:World)(e:Ending)(w':World):Prop:=
 ∃ (A1:Option Addr) (c1:Nat) (ns:List BA),e=.returned (.tuple #[.slice A1 ns.length c1,.int .i64 0])/\Below w.heap.size w w'/\rg w.heap.size w' A1 c1 ns/\ns.map bl=N
theorem Fk (A:Option Addr)(c lo:Nat)(gs:List jE)(w:World)(hG:Gl w)(hW:yk gs)(hd:nu w lo A gs.length c gs):Calls Tryz.prog 137 #[.slice A gs.length c] w (aay (if gs.map jE.pl=[] then [] else [lO (gs.map jE.pl)]) w):=by
 have y:=iV (wW A c gs hW w hG hd.ok hd.cap);clear hG hW hd;by_cases H:gs.length=0
 ·have q:((gs.length:Int)==0)=true:=by rw[H];rfl
  have E:Hid ((if gs.map jE.pl=[] then [] else [lO (gs.map jE.pl)])=([]:List (LU))):=by
   show _=_;rw[if_pos (by rw[List.length_eq_zero_iff.1 H];rfl)]
  rw[E.out];clear H y;go_in;go_wp2;go_ret2;exact⟨none,0,[],rfl,bR,rg.nil _ _,rfl⟩
 have q:((gs.length:Int)==0)=false:=beq_eq_false_iff_ne.2 (by omega);have E:Hid ((if gs.map jE.pl=[] then [] else [lO (gs.map jE.pl)])=[lO (gs.map jE.pl)]):=by
  show _=_;rw[if_neg];intro e;apply H;have:=congrArg List.length e;simpa using this
 rw[E.out];clear H;go_in;go_wp2_with fail;refine y.out.mono ?_;rintro e K ⟨rfl,F⟩;have J:=iV F;clear F y q;obtain⟨D,z⟩:∃ D,ke (lO (gs.map jE.pl))=D:=⟨_,rfl⟩
 have I:Hid (bl D=lO (gs.map jE.pl)):=by show _=_;rw[<-z,lS]
 rw[z];clear z;have M:=iV (MN (B:=w.heap.size) K D J.out.size);have N:=iV (jc J.out (bR.alloc lr (.cells #[.string D] 9)));go_wp2;go_ret2;exact⟨some ⟨K.heap.size,0,none⟩,1,[D],rfl,N.out,M.out,by rw[List.map_singleton,I.out]⟩
inductive oM.nes:oM->Prop
 | atom (nm:LU) (op:Nat) (v:LU):nes (.atom nm op v)
 | node (op:LU) (ks:List oM) (h:ks≠[]) (hk:∀ k∈ks,nes k):nes (.node op ks)
theorem UK {t:oM}{r:LU×Nat}(h:ov n l=some (t,r)):t.nes:=by
 unfold ov at h;split at h
 ·cases h
 ·split at h
  ·unfold rV at h;split at h
   ·injection h with h;injection h with h _;rw[<-h];exact .atom _ _ _
   ·unfold ra at h;split at h
    ·cases h
    ·split at h
     ·injection h with h;injection h with h _;rw[<-h];exact .atom _ _ _
     ·cases h
  ·cases h
theorem MX :∀ f:Nat,(∀ deep n l t r,nX f deep n l=some (t,r)->t.nes)/\(∀ deep n acc op l t r,(∀ k∈acc,oM.nes k)->pL f deep n acc op l=some (t,r)->t.nes)
 | 0=>⟨fun _ _ _ _ _ h=>by simp[nX] at h,fun _ _ _ _ _ _ _ _ h=>by simp[pL] at h⟩
 | f+1=>by
  obtain⟨J,F⟩:=MX f;constructor
  ·intro deep n l t r h;unfold nX at h;split at h
   ·cases h
   ·split at h
    ·split at h
     ·cases h
     ·exact F _ _ _ _ _ _ _ (fun k D=>by simp at D) h
    ·exact UK h
  ·intro deep n acc op l t r H h;unfold pL at h;split at h
   ·cases h
   ·rename_i k K M I;have D:=J _ _ _ _ _ I;have y:∀ x∈acc++[k],oM.nes x:=by
     intro x z;rcases List.mem_append.1 z with z | z
     ·exact H x z
     ·rw[List.mem_singleton.1 z];exact D
    split at h
    ·injection h with h;injection h with h _;rw[<-h];exact .node _ _ (by simp) y
    ·split at h
     ·exact F _ _ _ _ _ _ _ y h
     ·cases h
theorem Qf {t:oM}(h:lJ l=some t):t.nes:=by
 unfold lJ at h;split at h
 ·cases h
 ·rename_i y;split at h
  ·injection h with h;rw[<-h];exact(MX _).1 _ _ _ _ _ y
  ·cases h
theorem Xv {p:oM}(h:p.nes):ws p≠[]:=by
 cases h with
 | atom=>simp[ws]
 | node op ks hk _=>
  show(if op=mW then ks else [.node op ks])≠[];by_cases e:op=mW
  ·rw[if_pos e];exact hk
  ·rw[if_neg e];simp
theorem UL {p:oM}(h:p.nes):∀ q∈vc p,q.nes:=by
 cases h with
 | atom nm op v=>intro q y;simp[vc] at y;rw[y];exact .atom _ _ _
 | node op ks hk hks=>
  intro q y
  replace y:q∈(if op=nx then ks else [.node op ks]):=y
  by_cases e:op=nx
  ·rw[if_pos e] at y;exact hks q y
  ·rw[if_neg e] at y;rw[List.mem_singleton.1 y];exact .node _ _ hk hks
theorem Zd (hf:lE fmt)(hs:s.length<=1000000)(h:(kF fmt bar s).2=0):∀ d∈(kF fmt bar s).1,d.alts≠[]:=by
 rcases hf with rfl | rfl | rfl
 ·cases hd:mB s with
  | none=>rw[Rt hd] at h;cases h
  | some L=>
   have K:=wV hd hs;rw[WW hd] at h |-;unfold wq at h |-;split at h
   ·cases h
   ·rename_i z;rw[if_neg z];intro d y;obtain⟨g,D,rfl⟩:=List.mem_map.1 y;simpa using K.ne g D
 ·cases hd:lJ s with
  | none=>rw[Ru hd] at h;cases h
  | some t=>
   have J:=Qf hd;rw[WX hd] at h |-;unfold sk at h |-;by_cases z:bar=true
   ·rw[if_pos z] at h |-;by_cases F:Mo t=true
    ·rw[if_pos F];intro d y;rw[List.mem_singleton.1 y];simp
    ·rw[if_neg F] at h;cases h
   ·rw[if_neg z] at h |-;split at h
    ·rename_i I;rw[if_pos I];intro d y;obtain⟨p,H,rfl⟩:=List.mem_map.1 y;simpa using Xv (UL J p H)
    ·cases h
 ·cases hd:mq s with
  | none=>rw[Rv hd] at h;cases h
  | some L=>
   rw[WY hd] at h |-;unfold wt at h |-;split at h
   ·cases h
   ·rename_i z;rw[if_neg z];intro d y;obtain⟨g,D,rfl⟩:=List.mem_map.1 y;simp
theorem MY {a b:Int}{g:jf}(h:(jG a b g).2=0):(jG a b g).1.nm.size<=64/\(jG a b g).1.ver.size<=64/\(jG a b g).1.op=g.op:=by
 have D:jZ (bl g.nm)=true:=by
  cases hd:jZ (bl g.nm)
  ·unfold jG at h;rw[if_pos hd] at h;cases h
  ·rfl
 have y:=(tK D).2;rw[iX] at y;rcases Qe h with⟨z,e⟩ | ⟨z,ht,e⟩
 ·rw[e];exact⟨y,by show(⟨#[]⟩:BA).size<=64;decide,z.symm⟩
 ·rw[e];refine⟨y,?_,rfl⟩;have:=Mh (a:=a) (b:=b) (s:=g.ver);show(⟨(trans a b g.ver).1.toArray⟩:BA).size<=64;rw[aa7,kL];exact this
theorem yO {ts:List (LU)}(h:kZ fmt bar ts=0)(hs:∀ s∈ts,s.length<=1000000):(mh fmt bar ts).length<=64/\∀ d∈mh fmt bar ts,d.alts.length<=64/\∀ g∈d.alts,g.nm.size<=64/\g.ver.size<=64:=by
 obtain⟨J,R,M⟩:=UJ h;have K:jt (mh fmt bar ts)<=64:=by
  unfold kZ at h;rw[if_neg (fun U=>U J)] at h;split at h
  ·rename_i N;exact absurd h N
  ·split at h
   ·cases h
   ·omega
 have I:∀ d∈mh fmt bar ts,d.alts≠[]:=by
  intro d z;rw[MV] at z;obtain⟨x,H,rfl⟩:=List.mem_map.1 z;obtain⟨s,D,F⟩:=List.mem_flatMap.1 H;have:=Zd J (hs s D) (R s D) x F;unfold nf;simpa using this
 refine⟨Nat.le_trans (qG I) K,fun d z=>⟨Nat.le_trans (vf z) K,fun g V=>?_⟩⟩;rw[MV] at z;obtain⟨x,H,rfl⟩:=List.mem_map.1 z;obtain⟨y,O,rfl⟩:=List.mem_map.1 V;have:=MY (M x H y O);exact⟨this.1,this.2.1⟩
end
section
open Go.ChangeShapes Go.WideShapes Go.ChangeAt Go.RowKit
theorem GS {e:TypeId}{H:Type}{enc:TypeId×Value->H}{base:Nat}{sp:Nat->Bool}{held:Bool}{fuel:Nat}{t:TypeId}{cs:List Value}{p:List MemPlace}
  (ht:P.underlying t=some (.array n e))(he:P.underlying e=some .string)(hce:P.cellsOf e=1)(hct:P.cellsOf t=n)
  (h:DataW.trod enc P w base sp held fuel t cs=some (.agg (zs.map fun z=>.lit (.string z)),p)):cs=zs.map fun z=>Value.string ⟨z.toArray⟩:=by
 cases fuel with
 | zero=>simp[DataW.trod] at h
 | succ fuel=>
  simp only[DataW.trod,ht,hce,hct,Nat.mul_one] at h;split at h
  ·rename_i Y;obtain⟨D,J,R⟩:=Option.map_eq_some_iff.1 h;have y:D.map (·.1)=zs.map fun z=>(DataW.lit (.string z):DataW H):=by
    have:=congrArg Prod.fst R;simpa using this
   have V:D.length=n:=by simpa using Lib.mapM_length J
   have O:zs.length=n:=by
    have:=congrArg List.length y;simp at this;omega
   apply List.ext_getElem?;intro i;by_cases X:i<n
   ·obtain⟨b,M,N⟩:=Lib.mapM_at J i i (by simp[X]);obtain⟨z,K,rfl,_⟩:=DataW.trod_string he N;have U:cs[i]?=some (.string z):=by
     have:=congrArg (·[0]?) K;simpa [List.getElem?_take,List.getElem?_drop] using this
    have F:(D.map (·.1))[i]?=some (DataW.lit (.string z.data.toList):DataW H):=by simp[M]
    rw[y] at F;simp only[List.getElem?_map,Option.map_eq_some_iff,DataW.lit.injEq,Lit.string.injEq] at F;obtain⟨Z,I,rfl⟩:=F;simp[U,I]
   ·rw[List.getElem?_eq_none (by omega),List.getElem?_eq_none (by simp;omega)]
  ·cases h
theorem ph {n:String}{d:DataW Unit}{r:List (String×DataW Unit)}{ps:List MemPlace}(h:DataW.LaidVars P w ((n,d)::r) ps):
  (∃ g t cs fuel p,P.globalNamed n=some g/\(P.globals[g]?).map (·.type)=some t/\w.var? P n=some cs/\DataW.trod (fun _=>()) P w 0 (fun _=>true) false fuel t cs.toList=some (d,p))/\∃ q,DataW.LaidVars P w r q:=by
 obtain⟨g,t,cs,fuel,p,q,z,y,H,F,D,_⟩:=h;exact⟨⟨g,t,cs,fuel,p,z,y,H,F⟩,q,D⟩
theorem rF {e:TypeId}
  (hg:P.globalNamed name=some g0)(hty:(P.globals[g0]?).map (·.type)=some t0)(ht:P.underlying t0=some (.array n e))(he:P.underlying e=some .string)(hce:P.cellsOf e=1)(hct:P.cellsOf t0=n)
  (h:∃ g t cs fuel p,P.globalNamed name=some g/\(P.globals[g]?).map (·.type)=some t/\w.var? P name=some cs/\DataW.trod (fun _=>()) P w 0 (fun _=>true) false fuel t cs.toList=some (.agg (zs.map fun z=>.lit (.string z)),p))
  (i:Nat)(z:LU)(hi:zs[i]?=some z):w.cell? ⟨g0,i,none⟩=some (.string ⟨z.toArray⟩):=by
 obtain⟨J,K,cs,fuel,p,F,D,y,H⟩:=h;obtain rfl:=Option.some.inj (hg.symm.trans F);obtain rfl:=Option.some.inj (hty.symm.trans D);have I:=GS ht he hce hct H;rw[World.var?_cell hg y i,<-Array.getElem?_toList,I];simp[hi]
theorem aaT {e:TypeId}{k:IntKind}{zs:List Int}{D:DataW Unit}(hD:D=Lib.tabData k zs)
  (hg:P.globalNamed name=some g0)(hty:(P.globals[g0]?).map (·.type)=some t0)(ht:P.underlying t0=some (.array n e))(he:P.underlying e=some (.int k))(hce:P.cellsOf e=1)(hct:P.cellsOf t0=n)
  (h:∃ g t cs fuel p,P.globalNamed name=some g/\(P.globals[g]?).map (·.type)=some t/\w.var? P name=some cs/\DataW.trod (fun _=>()) P w 0 (fun _=>true) false fuel t cs.toList=some (D,p)):Lib.TabIs P w name k zs:=by
 obtain⟨I,J,cs,fuel,p,F,z,y,H⟩:=h;subst hD;obtain rfl:=Option.some.inj (hg.symm.trans F);obtain rfl:=Option.some.inj (hty.symm.trans z);unfold Lib.TabIs;rw[y,<-Lib.cells_of_tab ht he hce hct H]
theorem Bi (h:laidMetH Tryz.prog vn W)(hsh:W.ShapedOpen Tryz.prog):Ps W:=by
 obtain⟨ps,K,_⟩:=Kd h;obtain⟨_,q1,U⟩:=ph K;obtain⟨_,q2,z⟩:=ph U;obtain⟨cp,q3,F⟩:=ph z;obtain⟨_,q4,Z⟩:=ph F;obtain⟨I,q5,D⟩:=ph Z;obtain⟨N,q6,Y⟩:=ph D;obtain⟨X,q7,h7⟩:=ph Y;obtain⟨H,q8,R⟩:=ph h7;obtain⟨J,q9,V⟩:=ph R;obtain⟨M,O,aa⟩:=ph V;refine⟨⟨Go.Proofs.cell_of_shapedOpen_int (zero:=#[.int .i64 0]) (t:=3) hsh (dO (by kernel_rfl)) (by kernel_rfl) rfl (by kernel_rfl) (by kernel_rfl) Tryz.underlying3,?_,?_,?_,?_,?_⟩,?_,?_⟩
 ·intro i y;have e:=rF (zs:=[[97,108,112,104,97],[98,101,116,97],[112,114,101],[114,99],[99,118,115],[115,118,110],[103,105,116],[104,103],[112]]) (g0:=6) (t0:=354) (e:=9) (n:=9) (by kernel_rfl) (by kernel_rfl) Tryz.underlying354 Tryz.underlying9 (by kernel_rfl) (by kernel_rfl) I;rcases(by omega:i=0\/i=1\/i=2\/i=3\/i=4\/i=5\/i=6\/i=7\/i=8) with rfl | rfl | rfl | rfl | rfl | rfl | rfl | rfl | rfl
  all_goals exact e _ _ rfl
 ·intro i y;have e:=rF (zs:=[[],[60,60],[60,61],[61],[62,61],[62,62]]) (g0:=3) (t0:=324) (e:=9) (n:=6) (by kernel_rfl) (by kernel_rfl) Tryz.underlying324 Tryz.underlying9 (by kernel_rfl) (by kernel_rfl) X;rcases(by omega:i=0\/i=1\/i=2\/i=3\/i=4\/i=5) with rfl | rfl | rfl | rfl | rfl | rfl
  all_goals exact e _ _ rfl
 ·intro i y;have e:=rF (zs:=[[],[60],[60,61],[61],[62,61],[62]]) (g0:=4) (t0:=324) (e:=9) (n:=6) (by kernel_rfl) (by kernel_rfl) Tryz.underlying324 Tryz.underlying9 (by kernel_rfl) (by kernel_rfl) H;rcases(by omega:i=0\/i=1\/i=2\/i=3\/i=4\/i=5) with rfl | rfl | rfl | rfl | rfl | rfl
  all_goals exact e _ _ rfl
 ·intro i y;have e:=rF (zs:=[[97,110,100],[111,114],[105,102],[117,110,108,101,115,115],[119,105,116,104],[119,105,116,104,111,117,116]]) (g0:=9) (t0:=324) (e:=9) (n:=6) (by kernel_rfl) (by kernel_rfl) Tryz.underlying324 Tryz.underlying9 (by kernel_rfl) (by kernel_rfl) J;rcases(by omega:i=0\/i=1\/i=2\/i=3\/i=4\/i=5) with rfl | rfl | rfl | rfl | rfl | rfl
  all_goals exact e _ _ rfl
 ·intro i y;have e:=rF (zs:=[[],[60],[60,61],[61],[62,61],[62],[126]]) (g0:=1) (t0:=289) (e:=9) (n:=7) (by kernel_rfl) (by kernel_rfl) Tryz.underlying289 Tryz.underlying9 (by kernel_rfl) (by kernel_rfl) N;rcases(by omega:i=0\/i=1\/i=2\/i=3\/i=4\/i=5\/i=6) with rfl | rfl | rfl | rfl | rfl | rfl | rfl
  all_goals exact e _ _ rfl
 ·intro i y;have e:=rF (zs:=[[97,108,112,104,97],[98,101,116,97],[112,114,101],[114,99]]) (g0:=0) (t0:=62) (e:=9) (n:=4) (by kernel_rfl) (by kernel_rfl) Tryz.underlying62 Tryz.underlying9 (by kernel_rfl) (by kernel_rfl) M;rcases(by omega:i=0\/i=1\/i=2\/i=3) with rfl | rfl | rfl | rfl
  all_goals exact e _ _ rfl
 ·exact aaT (by kernel_rfl) (g0:=10) (t0:=377) (e:=269) (n:=20) (by kernel_rfl) (by kernel_rfl) Tryz.underlying377 Tryz.underlying269 (by kernel_rfl) (by kernel_rfl) cp
theorem X7 : Tryz.prog.globalNamed "errors.errorType" = some 2 := by kernel_rfl
theorem aaU : (Tryz.prog.cutTypes.find? (·.1 == "internal/reflectlite.rtype")).map (·.2) = some 337 := by kernel_rfl
theorem U1:((List.range Tryz.prog.types.size).filter fun t=>Tryz.prog.rowNamed t [101,114,114,111,114])=[191]:=by kernel_rfl
theorem Ke:typeHandle Tryz.prog 191=.pointer (some ⟨13,191,none⟩):=by kernel_rfl
theorem Ns (h:laidMetH Tryz.prog vn W)(hsh:W.ShapedOpen Tryz.prog):QN W:=by
 refine⟨(Bi h hsh).gl,?_⟩;have I : laidMet Tryz.prog rE W /\ handlesMet Tryz.prog [("errors.errorType", Rows.laid_errors_errorType)] W := h;obtain⟨y,u,M,N,J,H,F,D⟩:=I.2 _ (List.mem_singleton.2 rfl);have K:y=[101,114,114,111,114]:=(Option.some.inj N).symm;subst K;obtain rfl:=Option.some.inj (aaU.symm.trans J);have z:M∈(List.range Tryz.prog.types.size).filter fun t=>Tryz.prog.rowNamed t [101,114,114,111,114]:=List.mem_filter.2 ⟨List.mem_range.2 H,F⟩;rw[U1] at z;obtain rfl:=List.mem_singleton.1 z;rw[Ke] at D;simpa using World.var?_cell X7 D 0
theorem Bj (h:laidMetH Tryz.prog vn W)(hsh:W.ShapedOpen Tryz.prog):xC W:=⟨Ns h hsh,Bi h hsh⟩
end
end Go.Proofs.YtkmjcombhjombaaGreatDoor
