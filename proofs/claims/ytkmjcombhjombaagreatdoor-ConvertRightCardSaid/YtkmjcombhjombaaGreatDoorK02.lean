/- A part of the proof. -/
import Derived.Test.YtkmjcombhjombaaGreatDoorK01
set_option maxRecDepth 100000
set_option maxHeartbeats 20000000
set_option linter.unusedVariables false
set_option linter.unusedSimpArgs false
namespace Go.Proofs.YtkmjcombhjombaaGreatDoor
variable{vs:List Value}{b n:Nat}{w w1 w2:World}
section
open Go.RowKit
theorem iY (s:BA):s.toList=bl s:=ByteArray.toList_eq s
theorem jB (s:BA):(bl s).isEmpty=decide (s.size=0):=by
 rw[bI,List.isEmpty_iff,<-List.length_eq_zero_iff,iX];simp
theorem iW {a b:Bool}(h:a=b):Ending.returned (.bool a)=.returned (.bool b):=by rw[h]
theorem jz {k:IntKind}{a b:Int}(h:a=b):Ending.returned (.int k a)=.returned (.int k b):=by rw[h]
def I4 (n:Int):Int:=if n=1 then 1 else if n=2 then 3 else if n=3 then 2 else 0
def pN (n:Int):Bool:=decide (n=1\/n=2\/n=3)
theorem wy (n:Int)(w:World):Calls Tryz.prog 40 #[.int .i64 n] w fun e w'=>e=.returned (.int .i64 (I4 n))/\w=w':=by
 go_in;go_wp2
 all_goals (go_ret;refine⟨?_,rfl⟩;simp_all [I4])
theorem oy (n:Int)(w:World):Calls Tryz.prog 33 #[.int .i64 n] w fun e w'=>e=.returned (.bool (pN n))/\w=w':=by
 go_in;go_wp2
 all_goals (go_ret;refine⟨iW ?_,rfl⟩;rw[bI];simp_all [pN];try omega)
def Cr (least:Nat)(l:LU):Bool:=l.all fun c=>least<=c.toNat&&c.toNat<=126
def rG (l:LU):Bool:=!l.isEmpty&&Cr 33 l
theorem RO (least:Nat)(s:BA)(k:Nat)(h:k<s.size)(h0:Cr least ((bl s).take k)=true)(h1:least<=s[k].toNat)(h2:¬ s[k].toNat<least/\(s[k].toNat:Int)<=126):Cr least ((bl s).take (k+1))=true:=by
 unfold Cr at *;rw[mt s k h,h0];simp;omega
theorem Kk (least:Nat)(s:BA)(k:Nat)(h:k<s.size)(h1:s[k].toNat<least\/126<(s[k].toNat:Int)):Cr least (bl s)=false:=by
 unfold Cr;apply rq s k h;simp;omega
theorem tV (s:BA)(least:Nat)(w:World)(hs:s.size<=9223372036854775807):Calls Tryz.prog 110 #[.string s,.int .u8 least] w fun e w'=>e=.returned (.bool (Cr least (bl s)))/\w=w':=by
 go_in;go_wp2;go_loop [8] (fun i=>∃ k:Nat,k<=s.size/\i=.int .i64 k/\Hid (Cr least ((bl s).take k)=true)) (fun i=>s.size-(intOf i).toNat)
 case atStart=>exact⟨0,z0,rfl,by simp[Cr,Hid]⟩
 case round=>
  obtain⟨k,H,rfl,z⟩:=hrel;by_cases y:k<s.size
  ·by_cases F:least<=s[k].toNat
   ·by_cases D:(s[k].toNat:Int)<=126
    ·go_wp2;go_round
     case rel=>exact⟨k+1,by omega,by go_num,RO least s k y z.out F ⟨by omega,D⟩⟩
     case measure=>simp[intOf];omega
    ·go_wp2;go_ret;exact⟨iW (by rw[Kk least s k y (by omega)]),rfl⟩
   ·go_wp2;go_ret;exact⟨iW (by rw[Kk least s k y (by omega)]),rfl⟩
  ·go_wp2;go_ret;exact⟨iW (by have:=z.out;rw[px s k (by omega)] at this;rw[this]),rfl⟩
theorem At (s:BA)(w:World)(hs:s.size<=9223372036854775807):Calls Tryz.prog 116 #[.string s] w fun e w'=>e=.returned (.bool (rG (bl s)))/\w=w':=by
 go_in;go_wp2_with (go_at_call 110;refine(tV _ 33 _ hs).mono ?_;rintro e w' ⟨rfl,rfl⟩)
 all_goals (go_ret;refine⟨iW ?_,rfl⟩;simp_all [rG,iY])
theorem jc (h1:Below w.heap.size w w1)(h2:Below w1.heap.size w1 w2):Below w.heap.size w w2:=h1.trans (h2.mono h1.size)
def aw (fmt:Int)(n:Nat):BA:=
 if fmt=1 then (match n with | 0=>⟨#[97,109,100,54,52]⟩ | 1=>⟨#[97,114,109,54,52]⟩ | _=>⟨#[97,108,108]⟩)
 else (match n with | 0=>⟨#[120,56,54,95,54,52]⟩ | 1=>⟨#[97,97,114,99,104,54,52]⟩ | _=>⟨#[110,111,97,114,99,104]⟩)
theorem ZT (x0 x1 x2:Value)(w:World):(Instr.index 146 (.agg #[x0,x1,x2]) (.int .i64 0)).run Tryz.prog w=.ok x0 w:=by kernel_rfl
theorem ZU (x0 x1 x2:Value)(w:World):(Instr.index 146 (.agg #[x0,x1,x2]) (.int .i64 1)).run Tryz.prog w=.ok x1 w:=by kernel_rfl
theorem ZV (x0 x1 x2:Value)(w:World):(Instr.index 146 (.agg #[x0,x1,x2]) (.int .i64 2)).run Tryz.prog w=.ok x2 w:=by kernel_rfl
theorem qN (n:Int)(w:World):Calls Tryz.prog 66 #[.int .i64 n] w fun e w'=>e=.returned (.agg #[.string (aw n 0),.string (aw n 1),.string (aw n 2)])/\Below w.heap.size w w':=by
 by_cases h:n=1
 ·subst h;go_in;go_wp2;refine bodyPost_ret (v:=.agg #[.string (aw 1 0),.string (aw 1 1),.string (aw 1 2)]) (by simp[results,Tryz.results66,go_sem,aw]) rfl ⟨rfl,?_⟩;exact bR.alloc lr _
 ·have y:(n==1)=false:=by simpa using h
  go_in;go_wp2;refine bodyPost_ret (v:=.agg #[.string (aw n 0),.string (aw n 1),.string (aw n 2)]) (by simp[results,Tryz.results66,go_sem,aw,h]) rfl ⟨rfl,?_⟩;exact bR.alloc lr _
def py (a b:Int)(s:BA):BA×Int:=
 if pN a=false\/pN b=false then (⟨#[]⟩,9)
 else if aw a 0=s then (aw b 0,0) else if aw a 1=s then (aw b 1,0) else if aw a 2=s then (aw b 2,0) else (⟨#[]⟩,11)
def Ax (r:BA×Int):Value:=.tuple #[.string r.1,.int .i64 r.2]
theorem mI (s t:BA):(s.toList==t.toList)=decide (s=t):=by
 rw[iY,iY,bI];simp;exact⟨nH,fun h=>by rw[h]⟩
theorem NA (a b:Int)(s:BA)(w:World):Calls Tryz.prog 50 #[.int .i64 a,.int .i64 b,.string s] w fun e w'=>e=.returned (Ax (py a b s))/\Below w.heap.size w w':=by
 have R:=ZT;have X:=ZU;have U:=ZV;by_cases I:pN a=false
 ·go_in;go_wp2_with (go_at_call 33;refine(oy _ _).mono ?_;rintro e w' ⟨rfl,rfl⟩);go_ret2;exact⟨by simp[Ax,py,I],bR⟩
 simp only[Bool.not_eq_false] at I;by_cases J:pN b=false
 ·go_in;go_wp2_with (go_at_call 33;refine(oy _ _).mono ?_;rintro e w' ⟨rfl,rfl⟩);go_ret2;exact⟨by simp[Ax,py,J],bR⟩
 simp only[Bool.not_eq_false] at J;go_in;go_wp2_with (first | (go_at_call 33;refine(oy _ _).mono ?_;rintro e w' ⟨rfl,rfl⟩) | (go_at_call 66;refine(qN _ _).mono ?_;rintro e V ⟨rfl,F⟩));refine wp_loop_rounds 4 ?_;rw[rounds_succ];go_wp2_with (go_at_call 66;refine(qN _ _).mono ?_;rintro e M ⟨rfl,D⟩)
 ·have y:((aw a 0).toList==s.toList)=true:=by assumption
  rw[mI,decide_eq_true_iff] at y;go_ret2;exact⟨by simp[Ax,py,I,J,y],jc F D⟩
 have y:((aw a 0).toList==s.toList)=false:=by assumption
 have K:=iV y;clear y;rw[rounds_succ];go_wp2_with (go_at_call 66;refine(qN _ _).mono ?_;rintro e M ⟨rfl,D⟩)
 ·have z:((aw a 1).toList==s.toList)=true:=by assumption
  have y:=K.out;rw[mI,decide_eq_true_iff] at z;rw[mI,decide_eq_false_iff_not] at y;go_ret2;exact⟨by simp[Ax,py,I,J,y,z],jc F D⟩
 have z:((aw a 1).toList==s.toList)=false:=by assumption
 have N:=iV z;clear z;rw[rounds_succ];go_wp2_with (go_at_call 66;refine(qN _ _).mono ?_;rintro e M ⟨rfl,D⟩)
 ·have H:((aw a 2).toList==s.toList)=true:=by assumption
  have y:=K.out;have z:=N.out;rw[mI,decide_eq_true_iff] at H;rw[mI,decide_eq_false_iff_not] at y z;go_ret2;exact⟨by simp[Ax,py,I,J,y,z,H],jc F D⟩
 have H:((aw a 2).toList==s.toList)=false:=by assumption
 have O:=iV H;clear H;rw[rounds_succ];go_wp2_with fail;have y:=K.out;have z:=N.out;have H:=O.out;rw[mI,decide_eq_false_iff_not] at y z H;go_ret2;exact⟨by simp[Ax,py,I,J,y,z,H],F⟩
def ki (most n:Int):Int:=if n > most then most+1 else n
theorem oq (most n:Int)(h0:0<=most)(hn:0<=n):0<=ki most n/\ki most n<=most+1/\(ki most n<=most->ki most n=n):=by
 unfold ki;split<;>omega
theorem xH (n most:Int)(h0:0<=most)(h1:most<=1000000)(w:World):Calls Tryz.prog 76 #[.int .i64 n,.int .i64 most] w fun e w'=>e=.returned (.int .i64 (ki most n))/\w'=w:=by
 by_cases h:most<n
 ·go_in;go_wp2;go_ret;exact⟨jz (by unfold ki;rw[if_pos (by omega)]),rfl⟩
 ·go_in;go_wp2;go_ret;exact⟨jz (by unfold ki;rw[if_neg (by omega)]),rfl⟩
def kT (l:List BA):Nat:=(l.map fun s=>1+s.size).sum
def mY (l:List jf):Nat:=(l.map fun x=>1+x.nm.size+x.ver.size).sum
def my (l:List jg):Nat:=(l.map fun x=>1+x.path.size+x.owner.size+x.group.size+x.link.size+x.sum.size).sum
def mO (l:List jy):Nat:=(l.map fun x=>1+x.body.size).sum
def mz (p:jn):Nat:=p.nm.size+p.ver.size+p.ar.size+p.sm.size
def sW (p:jn):Nat:=mz p+kT p.needs+kT p.bars+mY p.gives+my p.files+mO p.scripts
def Yh (most:Int)(base:Nat)(m:Int):Prop:=0<=m/\m<=6*most+6/\(m<=most->m=base)
structure Bx (w wr:World) (vs:List Value):Prop where
 bel:Below w.heap.size w wr
 sz:w.heap.size<wr.heap.size
 cell:∀ (j:Nat)(u:Value),vs[j]?=some u->wr.cell? ⟨w.heap.size,j,none⟩=some u
 free:∀ j:Nat,j<vs.length->wr.frozen? ⟨w.heap.size,j,none⟩=false
theorem Bx.step (h:Bx w w1 vs)(hb:Below w1.heap.size w1 w2):Bx w w2 vs:=
 ⟨jc h.bel hb,Nat.lt_of_lt_of_le h.sz hb.size,fun j u z=>(hb.cell (p:=⟨w.heap.size,j,none⟩) h.sz).trans (h.cell j u z),fun j y=>(hb.frozen (p:=⟨w.heap.size,j,none⟩) h.sz).trans (h.free j y)⟩
theorem Bx.start (w:World)(vs:List Value)(t:TypeId):Bx w (w.alloc (.cells vs.toArray t)) vs:=
 ⟨bR.alloc lr _,by simp,fun j u y=>by simp[y],fun j _=>by simp⟩
theorem Bx.drewN (h:Bx w w1 vs)(k:Nat):Bx w (w1.drewN k) vs:=h.step (below_drewN' k)
 where below_drewN' {w1:World} (k:Nat):Below w1.heap.size w1 (w1.drewN k):=⟨rfl,rfl,rfl,lr,fun _ _=>rfl⟩
theorem zc (n most:Int)(h0:0<=most)(h1:most<=1000000)(w:World):Calls Tryz.prog 76 #[.int .i64 n,.int .i64 most] w fun e w'=>e=.returned (.int .i64 (ki most n))/\w=w':=
 (xH n most h0 h1 w).mono fun _ _ ⟨y,z⟩=>⟨y,z.symm⟩
theorem jm {T E:TypeId}{sz:Nat}(hT:Tryz.prog.underlying T=some (.slice (Tryz.prog.elem T)))(hE:Tryz.prog.elem T=E)(hs:∀ w,(sizeOf E).run Tryz.prog w=.ok sz w)
  {A:Option Addr}{c k off:Nat}(hA:A=some ⟨b,off,none⟩)(hk:k<n)(w:World):(Instr.indexAt T (.slice A n c) (.int .i64 k)).run Tryz.prog w=.ok (.pointer (some ⟨b,off+k*sz,none⟩)) w:=by
 rw[hA,run_indexAt_slice _ _ _ _ _ _ _ hT,if_pos (by omega),hE,hs];simp[Addr.add]
theorem Cv (l:List BA)(k:Nat)(x:BA)(h:l[k]?=some x):kT (l.take (k+1))=kT (l.take k)+1+x.size:=by
 obtain⟨y,z⟩:=gS h;unfold kT;rw[tS y,List.map_append,List.sum_append,z];simp;omega
theorem Ks (l:List jf)(k:Nat)(x:jf)(h:l[k]?=some x):mY (l.take (k+1))=mY (l.take k)+1+x.nm.size+x.ver.size:=by
 obtain⟨y,z⟩:=gS h;unfold mY;rw[tS y,List.map_append,List.sum_append,z];simp;omega
theorem Kt (l:List jg)(k:Nat)(x:jg)(h:l[k]?=some x):my (l.take (k+1))=my (l.take k)+1+x.path.size+x.owner.size+x.group.size+x.link.size+x.sum.size:=by
 obtain⟨y,z⟩:=gS h;unfold my;rw[tS y,List.map_append,List.sum_append,z];simp;omega
theorem F8 (l:List jy)(k:Nat)(x:jy)(h:l[k]?=some x):mO (l.take (k+1))=mO (l.take k)+1+x.body.size:=by
 obtain⟨y,z⟩:=gS h;unfold mO;rw[tS y,List.map_append,List.sum_append,z];simp;omega
theorem NB (        p:jn)(most:Int)(h0:0<=most)(h1:most<=1000000)(w:World)(hp:p.ok w)(hf:p.fits):Calls Tryz.prog 37 #[p.val,.int .i64 most] w fun e w'=>(∃ m:Int,e=.returned (.int .i64 m)/\Yh most (sW p) m)/\Below w.heap.size w w':=by
 have HP:=iV hp;clear hp;have HF:=iV hf;clear hf;obtain⟨a1,a2,A3⟩:=oq most p.nm.size h0 (by omega);obtain⟨b1,b2,B3⟩:=oq most p.ver.size h0 (by omega);obtain⟨c1,c2,C3⟩:=oq most p.ar.size h0 (by omega);obtain⟨d1,d2,D3⟩:=oq most p.sm.size h0 (by omega);have HS:Hid (Yh most (mz p) (ki most ↑p.nm.size+ki most ↑p.ver.size+ki most ↑p.ar.size+ki most ↑p.sm.size)):=by
  show Yh _ _ _;unfold Yh mz;omega
 clear A3 B3 C3 D3;have s1:IntKind.i64.wrap (ki most ↑p.nm.size+ki most ↑p.ver.size)=ki most ↑p.nm.size+ki most ↑p.ver.size:=IntWalk.i64_in _ (by omega);have s2:IntKind.i64.wrap (ki most ↑p.nm.size+ki most ↑p.ver.size+ki most ↑p.ar.size)=ki most ↑p.nm.size+ki most ↑p.ver.size+ki most ↑p.ar.size:=IntWalk.i64_in _ (by omega);have s3:IntKind.i64.wrap (ki most ↑p.nm.size+ki most ↑p.ver.size+ki most ↑p.ar.size+ki most ↑p.sm.size)=ki most ↑p.nm.size+ki most ↑p.ver.size+ki most ↑p.ar.size+ki most ↑p.sm.size:=IntWalk.i64_in _ (by omega);unfold jn.val;go_in;go_wp2;go_quiet ((go_at_call 76;exact Calls.quiet_of_same (xH _ _ h0 h1 _)));clear s1 s2 s3;go_upto_block 0 with(fail)
 go_cut [5] (fun U Z=>∃ m:Int,U=.int .i64 m/\0<=m/\m<=6*most+6/\Hid (m<=most->m=((mz p+kT p.needs:Nat):Int))/\Hid (Bx w Z p.cells))
 case first=>
  go_wp2;go_loopw [5,6] (fun n i wr=>∃ (k:Nat) (m:Int),k<=p.needs.length/\i=.int .i64 k/\n=.int .i64 m/\0<=m/\m<=6*most+6/\Hid (m<=most->m=((mz p+kT (p.needs.take k):Nat):Int))/\Hid (Bx w wr p.cells)) (fun _ i _=>p.needs.length-(intOf i).toNat)
  case atStart=>exact⟨0,_,z0,rfl,rfl,HS.out.1,HS.out.2.1,(fun h=>by rw[HS.out.2.2 h];simp[kT]),(Bx.start w p.cells _).drewN _⟩
  case round=>
   obtain⟨k,m,hk,rfl,rfl,D,F,H,y⟩:=hrel;have hc:=y.out.cell 4 _ rfl;have M:=HF.out.needs;by_cases z:k<p.needs.length
   ·by_cases X:m<=most
    ·obtain⟨x,I⟩:∃ x,p.needs[k]?=some x:=⟨_,gG z⟩
     obtain⟨b,off,N,J⟩:=(HP.out.needs.below y.out.bel).str k x I;have O:=fun W=>jm (T:=33) (E:=9) (sz:=1) (c:=p.nc) Tryz.underlying33 rfl Tryz.sizeOf9 N z W;simp only[Nat.mul_one] at O;obtain⟨q0,r0,R⟩:=oq most x.size h0 (by omega);have HX:=iV I;clear I N;have V:=iV (Cv p.needs k x HX.out);have K:=iV R;clear R;go_wp2_with fail;refine(zc _ _ h0 h1 _).mono ?_;rintro e w' ⟨rfl,rfl⟩;go_wp2_with fail;have Y:Hid (m+1+ki most ↑x.size<=most->m+1+ki most ↑x.size=((mz p+kT (p.needs.take (k+1)):Nat):Int)):=by
      intro h;rw[V.out];have:=H.out X;have:=K.out (by omega);omega
     go_roundw
     case rel=>exact⟨k+1,_,by omega,by go_num,rfl,by omega,by omega,Y,y⟩
     case measure=>simp[intOf];omega
    ·go_wp2;go_meet;exact⟨m,rfl,D,F,(fun h=>by omega),y⟩
   ·go_wp2;go_meet;exact⟨m,rfl,D,F,(fun h=>by rw[H.out h,tL (by omega)]),y⟩
 case rest=>
  obtain⟨m,rfl,D,F,H,y⟩:=hcut;go_upto_block 2 with(fail)
  go_cut [5] (fun U Z=>∃ m:Int,U=.int .i64 m/\0<=m/\m<=6*most+6/\Hid (m<=most->m=((mz p+kT p.needs+kT p.bars:Nat):Int))/\Hid (Bx w Z p.cells))
  case first=>
   go_wp2;go_loopw [5,7] (fun n i wr=>∃ (k:Nat) (m:Int),k<=p.bars.length/\i=.int .i64 k/\n=.int .i64 m/\0<=m/\m<=6*most+6/\Hid (m<=most->m=((mz p+kT p.needs+kT (p.bars.take k):Nat):Int))/\Hid (Bx w wr p.cells)) (fun _ i _=>p.bars.length-(intOf i).toNat)
   case atStart=>exact⟨0,_,z0,rfl,rfl,D,F,(fun h=>by rw[H.out h];simp[kT]),y⟩
   case round=>
    obtain⟨k,m,hk,rfl,rfl,D,F,H,y⟩:=hrel;have hc:=y.out.cell 5 _ rfl;have M:=HF.out.bars;by_cases z:k<p.bars.length
    ·by_cases X:m<=most
     ·obtain⟨x,I⟩:∃ x,p.bars[k]?=some x:=⟨_,gG z⟩
      obtain⟨b,off,N,J⟩:=(HP.out.bars.below y.out.bel).str k x I;have O:=fun W=>jm (T:=33) (E:=9) (sz:=1) (c:=p.bc) Tryz.underlying33 rfl Tryz.sizeOf9 N z W;simp only[Nat.mul_one] at O;obtain⟨q0,r0,R⟩:=oq most x.size h0 (by omega);have HX:=iV I;clear I N;have V:=iV (Cv p.bars k x HX.out);have K:=iV R;clear R;go_wp2_with fail;refine(zc _ _ h0 h1 _).mono ?_;rintro e w' ⟨rfl,rfl⟩;go_wp2_with fail;have Y:Hid (m+1+ki most ↑x.size<=most->m+1+ki most ↑x.size=((mz p+kT p.needs+kT (p.bars.take (k+1)):Nat):Int)):=by
       intro h;rw[V.out];have:=H.out X;have:=K.out (by omega);omega
      go_roundw
      case rel=>exact⟨k+1,_,by omega,by go_num,rfl,by omega,by omega,Y,y⟩
      case measure=>simp[intOf];omega
     ·go_wp2;go_meet;exact⟨m,rfl,D,F,(fun h=>by omega),y⟩
    ·go_wp2;go_meet;exact⟨m,rfl,D,F,(fun h=>by rw[H.out h,tL (by omega)]),y⟩
  case rest=>
   obtain⟨m,rfl,D,F,H,y⟩:=hcut;go_upto_block 4 with(fail)
   go_cut [5] (fun U Z=>∃ m:Int,U=.int .i64 m/\0<=m/\m<=6*most+6/\Hid (m<=most->m=((mz p+kT p.needs+kT p.bars+mY p.gives:Nat):Int))/\Hid (Bx w Z p.cells))
   case first=>
    go_wp2;go_loopw [5,8] (fun n i wr=>∃ (k:Nat) (m:Int),k<=p.gives.length/\i=.int .i64 k/\n=.int .i64 m/\0<=m/\m<=6*most+6/\Hid (m<=most->m=((mz p+kT p.needs+kT p.bars+mY (p.gives.take k):Nat):Int))/\Hid (Bx w wr p.cells)) (fun _ i _=>p.gives.length-(intOf i).toNat)
    case atStart=>exact⟨0,_,z0,rfl,rfl,D,F,(fun h=>by rw[H.out h];simp[mY]),y⟩
    case round=>
     obtain⟨k,m,hk,rfl,rfl,D,F,H,y⟩:=hrel;have hc:=y.out.cell 6 _ rfl;have M:=HF.out.gives;by_cases z:k<p.gives.length
     ·by_cases X:m<=most
      ·obtain⟨x,I⟩:∃ x,p.gives[k]?=some x:=⟨_,gG z⟩
       obtain⟨b,off,N,J⟩:=(HP.out.gives.below y.out.bel).elem md k x I;have e0:=J 0 _ rfl;have e2:=J 2 _ rfl;simp only[Nat.add_zero] at e0;clear J;have O:=fun W=>jm (T:=34) (E:=78) (sz:=3) (c:=p.gc) Tryz.underlying34 rfl Tryz.sizeOf78 N z W;obtain⟨q0,r0,R⟩:=oq most x.nm.size h0 (by omega);obtain⟨q2,r2,R2⟩:=oq most x.ver.size h0 (by omega);have HX:=iV I;clear I N;have V:=iV (Ks p.gives k x HX.out);have K:=iV R;clear R;have ae:=iV R2;clear R2;have s0:IntKind.i64.wrap (m+1)=m+1:=IntWalk.i64_in _ (by omega);have s1:IntKind.i64.wrap (m+1+ki most ↑x.nm.size)=m+1+ki most ↑x.nm.size:=IntWalk.i64_in _ (by omega);have s2:IntKind.i64.wrap (m+1+ki most ↑x.nm.size+ki most ↑x.ver.size)=m+1+ki most ↑x.nm.size+ki most ↑x.ver.size:=IntWalk.i64_in _ (by omega);go_wp2;go_quiet ((go_at_call 76;exact Calls.quiet_of_same (xH _ _ h0 h1 _)));clear s0 s1 s2;go_wp2_with fail;have Y:Hid (m+1+ki most ↑x.nm.size+ki most ↑x.ver.size<=most->m+1+ki most ↑x.nm.size+ki most ↑x.ver.size=((mz p+kT p.needs+kT p.bars+mY (p.gives.take (k+1)):Nat):Int)):=by
        intro h;rw[V.out];have:=H.out X;have:=K.out (by omega);have:=ae.out (by omega);omega
       go_roundw
       case rel=>exact⟨k+1,_,by omega,by go_num,rfl,by omega,by omega,Y,y.out.drewN _⟩
       case measure=>simp[intOf];omega
      ·go_wp2;go_meet;exact⟨m,rfl,D,F,(fun h=>by omega),y⟩
     ·go_wp2;go_meet;exact⟨m,rfl,D,F,(fun h=>by rw[H.out h,tL (by omega)]),y⟩
   case rest=>
    obtain⟨m,rfl,D,F,H,y⟩:=hcut;go_upto_block 6 with(fail)
    go_cut [5] (fun U Z=>∃ m:Int,U=.int .i64 m/\0<=m/\m<=6*most+6/\Hid (m<=most->m=((mz p+kT p.needs+kT p.bars+mY p.gives+my p.files:Nat):Int))/\Hid (Bx w Z p.cells))
    case first=>
     go_wp2;go_loopw [5,9] (fun n i wr=>∃ (k:Nat) (m:Int),k<=p.files.length/\i=.int .i64 k/\n=.int .i64 m/\0<=m/\m<=6*most+6/\Hid (m<=most->m=((mz p+kT p.needs+kT p.bars+mY p.gives+my (p.files.take k):Nat):Int))/\Hid (Bx w wr p.cells)) (fun _ i _=>p.files.length-(intOf i).toNat)
     case atStart=>exact⟨0,_,z0,rfl,rfl,D,F,(fun h=>by rw[H.out h];simp[my]),y⟩
     case round=>
      obtain⟨k,m,hk,rfl,rfl,D,F,H,y⟩:=hrel;have hc:=y.out.cell 7 _ rfl;have M:=HF.out.files;by_cases z:k<p.files.length
      ·by_cases X:m<=most
       ·obtain⟨x,I⟩:∃ x,p.files[k]?=some x:=⟨_,gG z⟩
        obtain⟨b,off,N,J⟩:=(HP.out.files.below y.out.bel).elem nS k x I;have e0:=J 0 _ rfl;have e1:=J 1 _ rfl;have e2:=J 2 _ rfl;have e3:=J 3 _ rfl;have e4:=J 4 _ rfl;have e5:=J 5 _ rfl;have e6:=J 6 _ rfl;have e7:=J 7 _ rfl;simp only[Nat.add_zero] at e0;clear J;have O:=fun W=>jm (T:=35) (E:=57) (sz:=8) (c:=p.fc) Tryz.underlying35 rfl Tryz.sizeOf57 N z W;obtain⟨q0,r0,R⟩:=oq most x.path.size h0 (by omega);obtain⟨q3,r3,R3⟩:=oq most x.owner.size h0 (by omega);obtain⟨q4,r4,R4⟩:=oq most x.group.size h0 (by omega);obtain⟨q5,r5,R5⟩:=oq most x.link.size h0 (by omega);obtain⟨q6,r6,R6⟩:=oq most x.sum.size h0 (by omega);have HX:=iV I;clear I N;have V:=iV (Kt p.files k x HX.out);have K:=iV R;clear R;have af:=iV R3;clear R3;have aa:=iV R4;clear R4;have ab:=iV R5;clear R5;have ac:=iV R6;clear R6;have ag:=y.out.sz;go_wp2_with fail;have s0:IntKind.i64.wrap (m+1)=m+1:=IntWalk.i64_in _ (by omega);have s1:IntKind.i64.wrap (m+1+ki most ↑x.path.size)=m+1+ki most ↑x.path.size:=IntWalk.i64_in _ (by omega);have s2:IntKind.i64.wrap (m+1+ki most ↑x.path.size+ki most ↑x.owner.size)=m+1+ki most ↑x.path.size+ki most ↑x.owner.size:=IntWalk.i64_in _ (by omega);have s3:IntKind.i64.wrap (m+1+ki most ↑x.path.size+ki most ↑x.owner.size+ki most ↑x.group.size)=m+1+ki most ↑x.path.size+ki most ↑x.owner.size+ki most ↑x.group.size:=IntWalk.i64_in _ (by omega);have s4:IntKind.i64.wrap (m+1+ki most ↑x.path.size+ki most ↑x.owner.size+ki most ↑x.group.size+ki most ↑x.link.size)=m+1+ki most ↑x.path.size+ki most ↑x.owner.size+ki most ↑x.group.size+ki most ↑x.link.size:=IntWalk.i64_in _ (by omega);have U:IntKind.i64.wrap (m+1+ki most ↑x.path.size+ki most ↑x.owner.size+ki most ↑x.group.size+ki most ↑x.link.size+ki most ↑x.sum.size)=m+1+ki most ↑x.path.size+ki most ↑x.owner.size+ki most ↑x.group.size+ki most ↑x.link.size+ki most ↑x.sum.size:=IntWalk.i64_in _ (by omega);go_quiet ((go_at_call 76;exact Calls.quiet_of_same (xH _ _ h0 h1 _)));clear s0 s1 s2 s3 s4 U;go_wp2_with fail;have Y:Hid (m+1+ki most ↑x.path.size+ki most ↑x.owner.size+ki most ↑x.group.size+ki most ↑x.link.size+ki most ↑x.sum.size<=most->m+1+ki most ↑x.path.size+ki most ↑x.owner.size+ki most ↑x.group.size+ki most ↑x.link.size+ki most ↑x.sum.size=((mz p+kT p.needs+kT p.bars+mY p.gives+my (p.files.take (k+1)):Nat):Int)):=by
         intro h;rw[V.out];have:=H.out X;have:=K.out (by omega);have:=af.out (by omega);have:=aa.out (by omega);have:=ab.out (by omega);have:=ac.out (by omega);omega
        go_roundw
        case rel=>exact⟨k+1,_,by omega,by go_num,rfl,by omega,by omega,Y,(y.out.step (bR.alloc lr _)).drewN _⟩
        case measure=>simp[intOf];omega
       ·go_wp2;go_meet;exact⟨m,rfl,D,F,(fun h=>by omega),y⟩
      ·go_wp2;go_meet;exact⟨m,rfl,D,F,(fun h=>by rw[H.out h,tL (by omega)]),y⟩
    case rest=>
     obtain⟨m,rfl,D,F,H,y⟩:=hcut;go_upto_block 8 with(fail)
     go_cut [5] (fun U Z=>∃ m:Int,U=.int .i64 m/\0<=m/\m<=6*most+6/\Hid (m<=most->m=((mz p+kT p.needs+kT p.bars+mY p.gives+my p.files+mO p.scripts:Nat):Int))/\Hid (Bx w Z p.cells))
     case first=>
      go_wp2;go_loopw [5,11] (fun n i wr=>∃ (k:Nat) (m:Int),k<=p.scripts.length/\i=.int .i64 k/\n=.int .i64 m/\0<=m/\m<=6*most+6/\Hid (m<=most->m=((mz p+kT p.needs+kT p.bars+mY p.gives+my p.files+mO (p.scripts.take k):Nat):Int))/\Hid (Bx w wr p.cells)) (fun _ i _=>p.scripts.length-(intOf i).toNat)
      case atStart=>exact⟨0,_,z0,rfl,rfl,D,F,(fun h=>by rw[H.out h];simp[mO]),y⟩
      case round=>
       obtain⟨k,m,hk,rfl,rfl,D,F,H,y⟩:=hrel;have hc:=y.out.cell 8 _ rfl;have M:=HF.out.scripts;by_cases z:k<p.scripts.length
       ·by_cases X:m<=most
        ·obtain⟨x,I⟩:∃ x,p.scripts[k]?=some x:=⟨_,gG z⟩
         obtain⟨b,off,N,J⟩:=(HP.out.scripts.below y.out.bel).elem nI k x I;have e1:=J 1 _ rfl;clear J;have O:=fun W=>jm (T:=36) (E:=59) (sz:=2) (c:=p.sc) Tryz.underlying36 rfl Tryz.sizeOf59 N z W;obtain⟨q1,r1,R1⟩:=oq most x.body.size h0 (by omega);have HX:=iV I;clear I N;have V:=iV (F8 p.scripts k x HX.out);have ad:=iV R1;clear R1;go_wp2_with fail;refine(zc _ _ h0 h1 _).mono ?_;rintro e w' ⟨rfl,rfl⟩;go_wp2_with fail;have Y:Hid (m+1+ki most ↑x.body.size<=most->m+1+ki most ↑x.body.size=((mz p+kT p.needs+kT p.bars+mY p.gives+my p.files+mO (p.scripts.take (k+1)):Nat):Int)):=by
                    intro h;rw[V.out];have:=H.out X;have:=ad.out (by omega);omega
         go_roundw
         case rel=>exact⟨k+1,_,by omega,by go_num,rfl,by omega,by omega,Y,y⟩
         case measure=>simp[intOf];omega
        ·go_wp2;go_meet;exact⟨m,rfl,D,F,(fun h=>by omega),y⟩
       ·go_wp2;go_meet;exact⟨m,rfl,D,F,(fun h=>by rw[H.out h,tL (by omega)]),y⟩
     case rest=>
      obtain⟨m,rfl,D,F,H,y⟩:=hcut;go_wp2;go_ret;exact⟨⟨m,rfl,D,F,H.out⟩,y.out.bel⟩
def xx {α:Type}(eq:α->α->Bool):List α->List α->Bool
 | [],[]=>true
 | a::r,b::s=>eq a b&&xx eq r s
 | _,_=>false
theorem rT {α:Type}(eq:α->α->Bool):∀ (l m:List α),l.length≠m.length->xx eq l m=false
 | [],[],h=>absurd rfl h
 | [],_::_,_=>rfl
 | _::_,[],_=>rfl
 | a::r,b::s,h=>by simp only[xx];rw[rT eq r s (by simpa using h)];simp
theorem yi {α:Type}(eq:α->α->Bool):∀ (l m:List α)(k:Nat)(x y:α),l[k]?=some x->m[k]?=some y->eq x y=false->xx eq l m=false
 | [],_,k,x,y,h,_,_=>by simp at h
 | _::_,[],k,x,y,_,h,_=>by simp at h
 | a::r,b::s,0,x,y,h,h',he=>by simp at h h';subst h h';simp[xx,he]
 | a::r,b::s,k+1,x,y,h,h',he=>by
  simp only[xx];rw[yi eq r s k x y (by simpa using h) (by simpa using h') he];simp
theorem uM {α:Type}(eq:α->α->Bool):∀ (l m:List α),l.length=m.length->(∀ (i:Nat)(x y:α),l[i]?=some x->m[i]?=some y->eq x y=true)->xx eq l m=true
 | [],[],_,_=>rfl
 | [],_::_,h,_=>by simp at h
 | _::_,[],h,_=>by simp at h
 | a::r,b::s,h,hi=>by
  simp only[xx];rw[hi 0 a b rfl rfl,uM eq r s (by simpa using h) (fun i x y D z=>hi (i+1) x y (by simpa using D) (by simpa using z))];rfl
def rn (a b:BA):Bool:=a.toList==b.toList
theorem aaf {x y:BA}(h:rn x y=true):x=y:=by unfold rn at h;rw[mI] at h;exact dO h
def qa (x y:jg):Bool:=rn x.path y.path&&(x.kind==y.kind)&&(x.mode==y.mode)&&rn x.owner y.owner&&rn x.group y.group&&rn x.link y.link&&rn x.sum y.sum&&(x.conf==y.conf)
theorem Lk (x y:jg)(w:World):(binOp .neq 57 (.agg #[.string x.path,.int .i64 x.kind,.int .i64 x.mode,.string x.owner,.string x.group,.string x.link,.string x.sum,.bool x.conf]) (.agg #[.string y.path,.int .i64 y.kind,.int .i64 y.mode,.string y.owner,.string y.group,.string y.link,.string y.sum,.bool y.conf])).run Tryz.prog w=.ok (.bool (!qa x y)) w:=by
 go_simp;unfold qa rn
 (repeat' split)<;>simp_all
def mT (x y:jy):Bool:=(x.phase==y.phase)&&rn x.body y.body
theorem Dn (x y:jy)(w:World):(binOp .neq 59 (.agg #[.int .i64 x.phase,.string x.body]) (.agg #[.int .i64 y.phase,.string y.body])).run Tryz.prog w=.ok (.bool (!mT x y)) w:=by
 go_simp;unfold mT rn
 (repeat' split)<;>simp_all
def Bld (w:World)(B b:Nat)(l:LU):Prop:=Lib.IsBuilder 278 5 B b (Lib.byteCells l) w
theorem Mn:(Tryz.prog.info? 278).map (·.size)=some 2:=by kernel_rfl
theorem Ey (b:Nat)(w:World)(h0:w.cell? ⟨b,0,none⟩=some (.pointer (some ⟨b,0,none⟩))):Calls Tryz.prog 235 #[.pointer (some ⟨b,0,none⟩)] w fun e w'=>e=.returned (.tuple #[])/\w'=w:=by
 obtain⟨j,y,_⟩:=Option.map_eq_some_iff.1 Mn;go_in;go_wp2_with fail;rw[Lib.run_neq_ptr_same w _ Tryz.underlying276 y];go_wp2;go_end0;exact⟨rfl,rfl⟩
theorem BM (b:Nat)(w:World)(h0:w.cell? ⟨b,0,none⟩=some (.pointer none))(hsh:w.shape? b=some (278,2))(hfz:w.frozen? ⟨b,0,none⟩=false):Calls Tryz.prog 235 #[.pointer (some ⟨b,0,none⟩)] w fun e w'=>e=.returned (.tuple #[])/\w'=w.setCell ⟨b,0,none⟩ (.pointer (some ⟨b,0,none⟩)):=by
 obtain⟨j,z,y⟩:=Option.map_eq_some_iff.1 Mn;go_in;go_wp2_with fail;rw[Lib.run_to_unsafe w ⟨b,0,none⟩ Tryz.underlying276 Tryz.underlying295 z (by rw[y];decide) hsh (Nat.zero_lt_succ 1)];simp only[Result.andThen];rw[Oper.upon_value];go_wp2_with fail;rw[run_callFunc_extern Tryz.func268 (by kernel_rfl) (by kernel_rfl) (by kernel_rfl) (e:=Extern.AbiNoEscape.same) (by kernel_rfl)];rw[Lib.run_noEscape];simp only[Result.andThen];rw[Oper.upon_value];go_wp2_with fail;rw[Lib.run_from_unsafe w ⟨b,0,none⟩ Tryz.underlying295 Tryz.underlying276 z hsh (by kernel_rfl)];simp only[Result.andThen];rw[Oper.upon_value];go_wp2;go_end0;exact⟨rfl,rfl⟩
theorem GG (B b:Nat)(bs:List Value)(w:World)(h:Lib.IsBuilder 278 5 B b bs w):Calls Tryz.prog 235 #[.pointer (some ⟨b,0,none⟩)] w fun e w'=>e=.returned (.tuple #[])/\(Lib.BuilderAt 278 5 B b (.pointer (some ⟨b,0,none⟩)) bs w'/\Below B w w'):=by
 rcases h with h | h
 ·refine(BM b w h.cell0 h.shape h.frozen0).mono ?_;rintro e w' ⟨rfl,rfl⟩;exact⟨rfl,h.used _,(Below.refl B w).setCell (p:=⟨b,0,none⟩) h.1 _⟩
 ·refine(Ey b w h.cell0).mono ?_;rintro e w' ⟨rfl,rfl⟩;exact⟨rfl,h,Below.refl B _⟩
theorem Wz:(Tryz.prog.info? 5).map (fun i=>(i.zero,i.size,i.bytes))=some (some (.int .u8 0),1,1):=by kernel_rfl
theorem Ez (B b:Nat)(l:LU)(s:BA)(w:World)(h:Bld w B b l)(hlen:l.length+s.size<=1000000)(hBw:B<=w.heap.size):Calls Tryz.prog 188 #[.pointer (some ⟨b,0,none⟩),.string s] w fun e w'=>e=.returned (.tuple #[.int .i64 s.size,.nilIface])/\Bld w' B b (l++bl s)/\Below B w w':=by
 obtain⟨i0,hi,X,R,O⟩:=info_parts Wz;have Z:(Lib.byteCells l).length=l.length:=Lib.byteCells_length l;go_in;go_wp2_with fail;refine(GG B b _ _ h).mono ?_;rintro e M ⟨rfl,h1,I⟩;obtain⟨hB,v,F,H,V⟩:=h1;have c0:M.cell? ⟨b,0,none⟩=some (.pointer (some ⟨b,0,none⟩)):=by rw[Lib.cell_of_heap F];rfl
 have c1:M.cell? ⟨b,1,none⟩=some v:=by rw[Lib.cell_of_heap F];rfl
 go_wp2_with (at_builtin;refine Lib.wpList_append_own_string _ rfl _ _ 106 9 rfl B 5 i0 Tryz.underlying106 Tryz.underlying9 hi X R O _ _ _ rfl H s rfl ?c3 ?c4 ?c5 ?_)
 case c3=>unfold maxLen;omega
 case c4=>omega
 case c5=>have:=I.size;omega
 intro v' K y z _;have U:b<M.heap.size:=by
  rcases Nat.lt_or_ge b M.heap.size with Y | Y
  ·exact Y
  ·simp[Array.getElem?_eq_none Y] at F
 have D:K.heap[b]?=some (.cells #[.pointer (some ⟨b,0,none⟩),v] 278 (0,0)):=by
  rw[z.block b U (fun e=>V e.symm)];exact F
 have d0:K.cell? ⟨b,0,none⟩=some (.pointer (some ⟨b,0,none⟩)):=by rw[Lib.cell_of_heap D];rfl
 have d1:K.cell? ⟨b,1,none⟩=some v:=by rw[Lib.cell_of_heap D];rfl
 have f1:K.frozen? ⟨b,1,none⟩=false:=Lib.frozen_of_heap D 1;obtain⟨ao,n',cap,rfl⟩:∃ ao n' cap,v'=.slice ao n' cap:=by
  rcases y.2 with⟨N,_⟩ | ⟨g,cap,aa,N,_⟩
  ·exact⟨_,_,_,N⟩
  ·exact⟨_,_,_,N⟩
 go_wp2;go_ret2;have J:Lib.byteCells l++Lib.strCells s=Lib.byteCells (l++bl s):=by
  unfold Lib.byteCells Lib.strCells bl;simp
 refine⟨rfl,.inr ?_,?_⟩
 ·rw[<-J];exact Lib.BuilderAt.put (T:=278) (e:=5) hB D (bs':=Lib.byteCells l++Lib.strCells s) (by simpa [Lib.strCells_length,Z] using y) (by decide)
 ·exact(I.grown z (by have:=I.size;omega) (fun k hk=>(H.lt k hk).1)).setCell (p:=⟨b,1,none⟩) hB _
theorem Ix {base j:Nat}{e:TypeId}{size:Nat}{nv:Value}{xs:List Value}(h:w.ownsRow base e size nv n xs)(hb:b<base)(v:Value):(w.setCell ⟨b,j,none⟩ v).ownsRow base e size nv n xs:=by
 have z:w.grownBy (w.setCell ⟨b,j,none⟩ v) (some b):=ji (World.grownBy.refl w (some b)) (.inl rfl) _;refine h.kept z ?_;cases hq:nv.ownBlock with
 | none=>exact .inl rfl
 | some q=>right;intro y;injection y with y;have:=(h.lt q hq).1;omega
end
end Go.Proofs.YtkmjcombhjombaaGreatDoor
