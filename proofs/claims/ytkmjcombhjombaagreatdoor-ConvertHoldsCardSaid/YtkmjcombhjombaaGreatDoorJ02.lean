/- A part of the proof. -/
import Derived.Deep.Fields
import Derived.Deep.Slices
import Derived.Test.YtkmjcombhjombaaGreatDoorJ00
set_option maxRecDepth 100000
set_option maxHeartbeats 20000000
set_option linter.unusedVariables false
set_option linter.unusedSimpArgs false
namespace Go.Proofs.YtkmjcombhjombaaGreatDoor
variable{fs:Array Field}{vs xs:LV}{b base c fuel g k lo n size sz:Nat}{A:OA}{row:Option Nat}{E T e:TypeId}{v:Value}{a w w' w1 w2:World}
open Go.Proofs.Tryz
section
open Go.RowKit
theorem fK (s:BA):s.toList=bl s:=ByteArray.toList_eq s
theorem gu (s:BA):(bl s).isEmpty=decide (s.size=0):=by
 rw[bI,List.isEmpty_iff,<-List.length_eq_zero_iff,fI];simp
theorem fJ {a b:Bool}(h:a=b):Ending.returned (.bool a)=.returned (.bool b):=by rw[h]
theorem fT {k:IntKind}{a b:Int}(h:a=b):Ending.returned (.int k a)=.returned (.int k b):=by rw[h]
def JQ (n:Int):Int:=if n=1 then 1 else if n=2 then 3 else if n=3 then 2 else 0
def nO (n:Int):Bool:=decide (n=1\/n=2\/n=3)
theorem vR (n:Int)(w:World):Calls prog 40 #[.int .i64 n] w fun e w'=>e=.returned (.int .i64 (JQ n))/\w=w':=by
 go_in;go_wp2
 all_goals (go_ret;refine⟨?_,rfl⟩;simp_all [JQ])
theorem mx (n:Int)(w:World):Calls prog 33 #[.int .i64 n] w fun e w'=>e=.returned (.bool (nO n))/\w=w':=by
 go_in;go_wp2
 all_goals (go_ret;refine⟨fJ ?_,rfl⟩;rw[bI];simp_all [nO];try omega)
def CM (least:Nat)(l:LU):Bool:=l.all fun c=>least<=c.toNat&&c.toNat<=126
def qn (l:LU):Bool:=!l.isEmpty&&CM 33 l
theorem TC (z:Nat)(s:BA)(k:Nat)(h:k<s.size)(D:CM z ((bl s).take k)=true)(F:z<=s[k].toNat)(H:¬ s[k].toNat<z/\(s[k].toNat:Int)<=126):CM z ((bl s).take (k+1))=true:=by
 unfold CM at *;rw[kN s k h,D];simp;omega
theorem LF (z:Nat)(s:BA)(k:Nat)(h:k<s.size)(D:s[k].toNat<z\/126<(s[k].toNat:Int)):CM z (bl s)=false:=by
 unfold CM;apply sE s k h;simp;omega
theorem sF (s:BA)(z:Nat)(w:World)(K:s.size<=9223372036854775807):Calls prog 110 #[.string s,.int .u8 z] w fun e w'=>e=.returned (.bool (CM z (bl s)))/\w=w':=by
 go_in;go_wp2;go_loop [8] (fun i=>∃ k:Nat,k<=s.size/\i=.int .i64 k/\Hid (CM z ((bl s).take k)=true)) (fun i=>s.size-(intOf i).toNat)
 case atStart=>exact⟨0,z0,rfl,by simp[CM,Hid]⟩
 case round=>
  obtain⟨k,J,rfl,F⟩:=hrel;by_cases D:k<s.size
  ·by_cases I:z<=s[k].toNat
   ·by_cases H:(s[k].toNat:Int)<=126
    ·go_wp2;go_round
     case rel=>exact⟨k+1,by omega,by go_num,TC z s k D F I ⟨by omega,H⟩⟩
     case measure=>simp[intOf];omega
    ·go_wp2;go_ret;exact⟨fJ (by rw[LF z s k D (by omega)]),rfl⟩
   ·go_wp2;go_ret;exact⟨fJ (by rw[LF z s k D (by omega)]),rfl⟩
  ·go_wp2;go_ret;exact⟨fJ (by have:=F.out;rw[qk s k (by omega)] at this;rw[this]),rfl⟩
theorem Ai (s:BA)(w:World)(z:s.size<=9223372036854775807):Calls prog 116 #[.string s] w fun e w'=>e=.returned (.bool (qn (bl s)))/\w=w':=by
 go_in;go_wp2_with (go_at_call 110;refine mb (sF _ 33 _ z) ?_;rintro w' rfl)
 all_goals (go_ret;refine⟨fJ ?_,rfl⟩;simp_all [qn,fK])
theorem fM (z:Bw w w1)(D:Bw w1 w2):Bw w w2:=z.trans (D.mono z.size)
def aw (fmt:Int)(n:Nat):BA:=
 if fmt=1 then (match n with | 0=>⟨#[97,109,100,54,52]⟩ | 1=>⟨#[97,114,109,54,52]⟩ | _=>⟨#[97,108,108]⟩)
 else (match n with | 0=>⟨#[120,56,54,95,54,52]⟩ | 1=>⟨#[97,97,114,99,104,54,52]⟩ | _=>⟨#[110,111,97,114,99,104]⟩)
theorem abZ (z F D:Value)(w:World):(Instr.index 146 (.agg #[z,F,D]) (.int .i64 0)).run prog w=.ok z w:=by kernel_rfl
theorem ab0 (D z F:Value)(w:World):(Instr.index 146 (.agg #[D,z,F]) (.int .i64 1)).run prog w=.ok z w:=by kernel_rfl
theorem ab1 (D F z:Value)(w:World):(Instr.index 146 (.agg #[D,F,z]) (.int .i64 2)).run prog w=.ok z w:=by kernel_rfl
theorem pd (n:Int)(w:World):Calls prog 66 #[.int .i64 n] w fun e w'=>e=.returned (.agg #[.string (aw n 0),.string (aw n 1),.string (aw n 2)])/\Bw w w':=by
 by_cases h:n=1
 ·subst h;go_in;go_wp2;refine bodyPost_ret (v:=.agg #[.string (aw 1 0),.string (aw 1 1),.string (aw 1 2)]) (by simp[results,results66,go_sem,aw]) rfl ⟨rfl,?_⟩;exact bR.alloc lr _
 ·have z:(n==1)=false:=by simpa using h
  go_in;go_wp2;refine bodyPost_ret (v:=.agg #[.string (aw n 0),.string (aw n 1),.string (aw n 2)]) (by simp[results,results66,go_sem,aw,h]) rfl ⟨rfl,?_⟩;exact bR.alloc lr _
def nw (a b:Int)(s:BA):BA×Int:=
 if nO a=false\/nO b=false then (⟨#[]⟩,9)
 else if aw a 0=s then (aw b 0,0) else if aw a 1=s then (aw b 1,0) else if aw a 2=s then (aw b 2,0) else (⟨#[]⟩,11)
def Ak (r:BA×Int):Value:=.tuple #[.string r.1,.int .i64 r.2]
theorem kY (s t:BA):(s.toList==t.toList)=decide (s=t):=by
 rw[fK,fK,bI];simp;exact⟨kG,fun h=>by rw[h]⟩
theorem Pb (a b:Int)(s:BA)(w:World):Calls prog 50 #[.int .i64 a,.int .i64 b,.string s] w fun e w'=>e=.returned (Ak (nw a b s))/\Bw w w':=by
 have V:=abZ;have X:=ab0;have Z:=ab1;by_cases J:nO a=false
 ·go_in;go_wp2_with (go_at_call 33;refine mb (mx _ _) ?_;rintro w' rfl);go_ret2;exact⟨by simp[Ak,nw,J],bR⟩
 simp only[Bool.not_eq_false] at J;by_cases K:nO b=false
 ·go_in;go_wp2_with (go_at_call 33;refine mb (mx _ _) ?_;rintro w' rfl);go_ret2;exact⟨by simp[Ak,nw,K],bR⟩
 simp only[Bool.not_eq_false] at K;go_in;go_wp2_with (first | (go_at_call 33;refine mb (mx _ _) ?_;rintro w' rfl) | (go_at_call 66;refine mb (pd _ _) ?_;rintro Y H));refine wp_loop_rounds 4 ?_;rw[rounds_succ];go_wp2_with (go_at_call 66;refine mb (pd _ _) ?_;rintro R F)
 ·have z:((aw a 0).toList==s.toList)=true:=by assumption
  rw[kY,decide_eq_true_iff] at z;go_ret2;exact⟨by simp[Ak,nw,J,K,z],fM H F⟩
 have z:((aw a 0).toList==s.toList)=false:=by assumption
 have M:=fH z;clear z;rw[rounds_succ];go_wp2_with (go_at_call 66;refine mb (pd _ _) ?_;rintro R F)
 ·have D:((aw a 1).toList==s.toList)=true:=by assumption
  have z:=M.out;rw[kY,decide_eq_true_iff] at D;rw[kY,decide_eq_false_iff_not] at z;go_ret2;exact⟨by simp[Ak,nw,J,K,z,D],fM H F⟩
 have D:((aw a 1).toList==s.toList)=false:=by assumption
 have O:=fH D;clear D;rw[rounds_succ];go_wp2_with (go_at_call 66;refine mb (pd _ _) ?_;rintro R F)
 ·have I:((aw a 2).toList==s.toList)=true:=by assumption
  have z:=M.out;have D:=O.out;rw[kY,decide_eq_true_iff] at I;rw[kY,decide_eq_false_iff_not] at z D;go_ret2;exact⟨by simp[Ak,nw,J,K,z,D,I],fM H F⟩
 have I:((aw a 2).toList==s.toList)=false:=by assumption
 have U:=fH I;clear I;rw[rounds_succ];go_wp2_with fail;have z:=M.out;have D:=O.out;have I:=U.out;rw[kY,decide_eq_false_iff_not] at z D I;go_ret2;exact⟨by simp[Ak,nw,J,K,z,D,I],H⟩
def im (most n:Int):Int:=if n > most then most+1 else n
theorem mj (z n:Int)(D:0<=z)(F:0<=n):0<=im z n/\im z n<=z+1/\(im z n<=z->im z n=n):=by
 unfold im;split<;>omega
theorem wV (n z:Int)(D:0<=z)(F:z<=1000000)(w:World):Calls prog 76 #[.int .i64 n,.int .i64 z] w fun e w'=>e=.returned (.int .i64 (im z n))/\w'=w:=by
 by_cases h:z<n
 ·go_in;go_wp2;go_ret;exact⟨fT (by unfold im;rw[if_pos (by omega)]),rfl⟩
 ·go_in;go_wp2;go_ret;exact⟨fT (by unfold im;rw[if_neg (by omega)]),rfl⟩
def jx (l:List BA):Nat:=(l.map fun s=>1+s.size).sum
def my (l:List fP):Nat:=(l.map fun x=>1+x.nm.size+x.ver.size).sum
def mz (l:List fW):Nat:=(l.map fun x=>1+x.path.size+x.owner.size+x.group.size+x.link.size+x.sum.size).sum
def mA (l:List gE):Nat:=(l.map fun x=>1+x.body.size).sum
def kZ (p:fZ):Nat:=p.nm.size+p.ver.size+p.ar.size+p.sm.size
def wW (p:fZ):Nat:=kZ p+jx p.needs+jx p.bars+my p.gives+mz p.files+mA p.scripts
def Z1 (most:Int)(base:Nat)(m:Int):Prop:=0<=m/\m<=6*most+6/\(m<=most->m=base)
structure Bx (w wr:World) (vs:LV):Prop where
 bel:Bw w wr
 sz:w.heap.size<wr.heap.size
 cell:∀ (j:Nat)(u:Value),vs[j]?=some u->wr.cell? ⟨w.heap.size,j,none⟩=some u
 free:∀ j:Nat,j<vs.length->wr.frozen? ⟨w.heap.size,j,none⟩=false
theorem Bx.step (h:Bx w w1 vs)(z:Bw w1 w2):Bx w w2 vs:=
 ⟨fM h.bel z,Nat.lt_of_lt_of_le h.sz z.size,fun j u F=>(z.cell (p:=⟨w.heap.size,j,none⟩) h.sz).trans (h.cell j u F),fun j D=>(z.frozen (p:=⟨w.heap.size,j,none⟩) h.sz).trans (h.free j D)⟩
theorem Bx.start (w:World)(vs:LV)(t:TypeId):Bx w (w.alloc (.cells vs.toArray t)) vs:=
 ⟨bR.alloc lr _,by simp,fun j u z=>by simp[z],fun j _=>by simp⟩
theorem Bx.drewN (h:Bx w w1 vs)(k:Nat):Bx w (w1.drewN k) vs:=h.step (below_drewN' k)
 where below_drewN' {w1:World} (k:Nat):Bw w1 (w1.drewN k):=⟨rfl,rfl,rfl,lr,fun _ _=>rfl⟩
theorem yO (n z:Int)(I:0<=z)(H:z<=1000000)(w:World):Calls prog 76 #[.int .i64 n,.int .i64 z] w fun e w'=>e=.returned (.int .i64 (im z n))/\w=w':=
 (wV n z I H w).mono fun _ _ ⟨F,D⟩=>⟨F,D.symm⟩
theorem gi (D:prog.underlying T=some (.slice (prog.elem T)))(z:prog.elem T=E)(F:∀ w,(sizeOf E).run prog w=.ok sz w)
  {off:Nat}(H:A=some ⟨b,off,none⟩)(I:k<n)(w:World):(Instr.indexAt T (.slice A n c) (.int .i64 k)).run prog w=.ok (.pointer (some ⟨b,off+k*sz,none⟩)) w:=by
 rw[H,run_indexAt_slice _ _ _ _ _ _ _ D,if_pos (by omega),z,F];simp[Addr.add]
theorem CT (l:List BA)(k:Nat)(x:BA)(h:l[k]?=some x):jx (l.take (k+1))=jx (l.take k)+1+x.size:=by
 obtain⟨z,D⟩:=gS h;unfold jx;rw[tS z,List.map_append,List.sum_append,D];simp;omega
theorem LS (l:List fP)(k:Nat)(x:fP)(h:l[k]?=some x):my (l.take (k+1))=my (l.take k)+1+x.nm.size+x.ver.size:=by
 obtain⟨z,D⟩:=gS h;unfold my;rw[tS z,List.map_append,List.sum_append,D];simp;omega
theorem LW (l:List fW)(k:Nat)(x:fW)(h:l[k]?=some x):mz (l.take (k+1))=mz (l.take k)+1+x.path.size+x.owner.size+x.group.size+x.link.size+x.sum.size:=by
 obtain⟨z,D⟩:=gS h;unfold mz;rw[tS z,List.map_append,List.sum_append,D];simp;omega
theorem GA (l:List gE)(k:Nat)(x:gE)(h:l[k]?=some x):mA (l.take (k+1))=mA (l.take k)+1+x.body.size:=by
 obtain⟨z,D⟩:=gS h;unfold mA;rw[tS z,List.map_append,List.sum_append,D];simp;omega
theorem Pd (        p:fZ)(z:Int)(K:0<=z)(h1:z<=1000000)(w:World)(hp:p.ok w)(hf:p.fits):Calls prog 37 #[p.val,.int .i64 z] w fun e w'=>(∃ m:Int,e=.returned (.int .i64 m)/\Z1 z (wW p) m)/\Bw w w':=by
 have HP:=fH hp;clear hp;have HF:=fH hf;clear hf;obtain⟨a1,a2,A3⟩:=mj z p.nm.size K (by omega);obtain⟨b1,b2,B3⟩:=mj z p.ver.size K (by omega);obtain⟨c1,c2,C3⟩:=mj z p.ar.size K (by omega);obtain⟨d1,d2,D3⟩:=mj z p.sm.size K (by omega);have HS:Hid (Z1 z (kZ p) (im z ↑p.nm.size+im z ↑p.ver.size+im z ↑p.ar.size+im z ↑p.sm.size)):=by
  show Z1 _ _ _;unfold Z1 kZ;omega
 clear A3 B3 C3 D3;have s1:IntKind.i64.wrap (im z ↑p.nm.size+im z ↑p.ver.size)=im z ↑p.nm.size+im z ↑p.ver.size:=IntWalk.i64_in _ (by omega);have s2:IntKind.i64.wrap (im z ↑p.nm.size+im z ↑p.ver.size+im z ↑p.ar.size)=im z ↑p.nm.size+im z ↑p.ver.size+im z ↑p.ar.size:=IntWalk.i64_in _ (by omega);have s3:IntKind.i64.wrap (im z ↑p.nm.size+im z ↑p.ver.size+im z ↑p.ar.size+im z ↑p.sm.size)=im z ↑p.nm.size+im z ↑p.ver.size+im z ↑p.ar.size+im z ↑p.sm.size:=IntWalk.i64_in _ (by omega);unfold fZ.val;go_in;go_wp2;go_quiet ((go_at_call 76;exact Calls.quiet_of_same (wV _ _ K h1 _)));clear s1 s2 s3;go_upto_block 0 with(fail)
 go_cut [5] (fun Z wx=>∃ m:Int,Z=.int .i64 m/\0<=m/\m<=6*z+6/\Hid (m<=z->m=((kZ p+jx p.needs:Nat):Int))/\Hid (Bx w wx p.cells))
 case first=>
  go_wp2;go_loopw [5,6] (fun n i wr=>∃ (k:Nat) (m:Int),k<=p.needs.length/\i=.int .i64 k/\n=.int .i64 m/\0<=m/\m<=6*z+6/\Hid (m<=z->m=((kZ p+jx (p.needs.take k):Nat):Int))/\Hid (Bx w wr p.cells)) (fun _ i _=>p.needs.length-(intOf i).toNat)
  case atStart=>exact⟨0,_,z0,rfl,rfl,HS.1,HS.2.1,(fun h=>by rw[HS.out.2.2 h];simp[jx]),(Bx.start w p.cells _).drewN _⟩
  case round=>
   obtain⟨k,m,hk,rfl,rfl,H,I,J,D⟩:=hrel;have hc:=D.cell 4 _ rfl;have R:=HF.needs;by_cases F:k<p.needs.length
   ·by_cases hm:m<=z
    ·obtain⟨x,M⟩:∃ x,p.needs[k]?=some x:=⟨_,gG F⟩
     obtain⟨b,off,U,Y⟩:=(HP.needs.below D.bel).str k x M;have V:=fun W=>gi (T:=33) (E:=9) (sz:=1) (c:=p.nc) underlying33 rfl sizeOf9 U F W;simp only[Nat.mul_one] at V;obtain⟨q0,r0,X⟩:=mj z x.size K (by omega);have HX:=fH M;clear M U;have HW:=fH (CT p.needs k x HX);have O:=fH X;clear X;go_wp2_with fail;refine mb (yO _ _ K h1 _) ?_;rintro w' rfl;go_wp2_with fail;have F1:Hid (m+1+im z ↑x.size<=z->m+1+im z ↑x.size=((kZ p+jx (p.needs.take (k+1)):Nat):Int)):=by
      intro h;rw[HW.out];have:=J.out hm;have:=O.out (by omega);omega
     go_roundw
     case rel=>exact⟨k+1,_,by omega,by go_num,rfl,by omega,by omega,F1,D⟩
     case measure=>simp[intOf];omega
    ·go_wp2;go_meet;exact⟨m,rfl,H,I,(fun h=>by omega),D⟩
   ·go_wp2;go_meet;exact⟨m,rfl,H,I,(fun h=>by rw[J.out h,tL (by omega)]),D⟩
 case rest=>
  obtain⟨m,rfl,H,I,J,D⟩:=hcut;go_upto_block 2 with(fail)
  go_cut [5] (fun Z wx=>∃ m:Int,Z=.int .i64 m/\0<=m/\m<=6*z+6/\Hid (m<=z->m=((kZ p+jx p.needs+jx p.bars:Nat):Int))/\Hid (Bx w wx p.cells))
  case first=>
   go_wp2;go_loopw [5,7] (fun n i wr=>∃ (k:Nat) (m:Int),k<=p.bars.length/\i=.int .i64 k/\n=.int .i64 m/\0<=m/\m<=6*z+6/\Hid (m<=z->m=((kZ p+jx p.needs+jx (p.bars.take k):Nat):Int))/\Hid (Bx w wr p.cells)) (fun _ i _=>p.bars.length-(intOf i).toNat)
   case atStart=>exact⟨0,_,z0,rfl,rfl,H,I,(fun h=>by rw[J.out h];simp[jx]),D⟩
   case round=>
    obtain⟨k,m,hk,rfl,rfl,H,I,J,D⟩:=hrel;have hc:=D.cell 5 _ rfl;have R:=HF.bars;by_cases F:k<p.bars.length
    ·by_cases hm:m<=z
     ·obtain⟨x,M⟩:∃ x,p.bars[k]?=some x:=⟨_,gG F⟩
      obtain⟨b,off,U,Y⟩:=(HP.bars.below D.bel).str k x M;have V:=fun W=>gi (T:=33) (E:=9) (sz:=1) (c:=p.bc) underlying33 rfl sizeOf9 U F W;simp only[Nat.mul_one] at V;obtain⟨q0,r0,X⟩:=mj z x.size K (by omega);have HX:=fH M;clear M U;have HW:=fH (CT p.bars k x HX);have O:=fH X;clear X;go_wp2_with fail;refine mb (yO _ _ K h1 _) ?_;rintro w' rfl;go_wp2_with fail;have F1:Hid (m+1+im z ↑x.size<=z->m+1+im z ↑x.size=((kZ p+jx p.needs+jx (p.bars.take (k+1)):Nat):Int)):=by
       intro h;rw[HW.out];have:=J.out hm;have:=O.out (by omega);omega
      go_roundw
      case rel=>exact⟨k+1,_,by omega,by go_num,rfl,by omega,by omega,F1,D⟩
      case measure=>simp[intOf];omega
     ·go_wp2;go_meet;exact⟨m,rfl,H,I,(fun h=>by omega),D⟩
    ·go_wp2;go_meet;exact⟨m,rfl,H,I,(fun h=>by rw[J.out h,tL (by omega)]),D⟩
  case rest=>
   obtain⟨m,rfl,H,I,J,D⟩:=hcut;go_upto_block 4 with(fail)
   go_cut [5] (fun Z wx=>∃ m:Int,Z=.int .i64 m/\0<=m/\m<=6*z+6/\Hid (m<=z->m=((kZ p+jx p.needs+jx p.bars+my p.gives:Nat):Int))/\Hid (Bx w wx p.cells))
   case first=>
    go_wp2;go_loopw [5,8] (fun n i wr=>∃ (k:Nat) (m:Int),k<=p.gives.length/\i=.int .i64 k/\n=.int .i64 m/\0<=m/\m<=6*z+6/\Hid (m<=z->m=((kZ p+jx p.needs+jx p.bars+my (p.gives.take k):Nat):Int))/\Hid (Bx w wr p.cells)) (fun _ i _=>p.gives.length-(intOf i).toNat)
    case atStart=>exact⟨0,_,z0,rfl,rfl,H,I,(fun h=>by rw[J.out h];simp[my]),D⟩
    case round=>
     obtain⟨k,m,hk,rfl,rfl,H,I,J,D⟩:=hrel;have hc:=D.cell 6 _ rfl;have R:=HF.gives;by_cases F:k<p.gives.length
     ·by_cases hm:m<=z
      ·obtain⟨x,M⟩:∃ x,p.gives[k]?=some x:=⟨_,gG F⟩
       obtain⟨b,off,U,Y⟩:=(HP.gives.below D.bel).elem kt k x M;have e0:=Y 0 _ rfl;have e2:=Y 2 _ rfl;simp only[Nat.add_zero] at e0;clear Y;have V:=fun W=>gi (T:=34) (E:=78) (sz:=3) (c:=p.gc) underlying34 rfl sizeOf78 U F W;obtain⟨q0,r0,X⟩:=mj z x.nm.size K (by omega);obtain⟨q2,r2,R2⟩:=mj z x.ver.size K (by omega);have HX:=fH M;clear M U;have HW:=fH (LS p.gives k x HX);have O:=fH X;clear X;have ac:=fH R2;clear R2;have s0:IntKind.i64.wrap (m+1)=m+1:=IntWalk.i64_in _ (by omega);have s1:IntKind.i64.wrap (m+1+im z ↑x.nm.size)=m+1+im z ↑x.nm.size:=IntWalk.i64_in _ (by omega);have s2:IntKind.i64.wrap (m+1+im z ↑x.nm.size+im z ↑x.ver.size)=m+1+im z ↑x.nm.size+im z ↑x.ver.size:=IntWalk.i64_in _ (by omega);go_wp2;go_quiet ((go_at_call 76;exact Calls.quiet_of_same (wV _ _ K h1 _)));clear s0 s1 s2;go_wp2_with fail;have F1:Hid (m+1+im z ↑x.nm.size+im z ↑x.ver.size<=z->m+1+im z ↑x.nm.size+im z ↑x.ver.size=((kZ p+jx p.needs+jx p.bars+my (p.gives.take (k+1)):Nat):Int)):=by
        intro h;rw[HW.out];have:=J.out hm;have:=O.out (by omega);have:=ac.out (by omega);omega
       go_roundw
       case rel=>exact⟨k+1,_,by omega,by go_num,rfl,by omega,by omega,F1,D.drewN _⟩
       case measure=>simp[intOf];omega
      ·go_wp2;go_meet;exact⟨m,rfl,H,I,(fun h=>by omega),D⟩
     ·go_wp2;go_meet;exact⟨m,rfl,H,I,(fun h=>by rw[J.out h,tL (by omega)]),D⟩
   case rest=>
    obtain⟨m,rfl,H,I,J,D⟩:=hcut;go_upto_block 6 with(fail)
    go_cut [5] (fun Z wx=>∃ m:Int,Z=.int .i64 m/\0<=m/\m<=6*z+6/\Hid (m<=z->m=((kZ p+jx p.needs+jx p.bars+my p.gives+mz p.files:Nat):Int))/\Hid (Bx w wx p.cells))
    case first=>
     go_wp2;go_loopw [5,9] (fun n i wr=>∃ (k:Nat) (m:Int),k<=p.files.length/\i=.int .i64 k/\n=.int .i64 m/\0<=m/\m<=6*z+6/\Hid (m<=z->m=((kZ p+jx p.needs+jx p.bars+my p.gives+mz (p.files.take k):Nat):Int))/\Hid (Bx w wr p.cells)) (fun _ i _=>p.files.length-(intOf i).toNat)
     case atStart=>exact⟨0,_,z0,rfl,rfl,H,I,(fun h=>by rw[J.out h];simp[mz]),D⟩
     case round=>
      obtain⟨k,m,hk,rfl,rfl,H,I,J,D⟩:=hrel;have hc:=D.cell 7 _ rfl;have R:=HF.files;by_cases F:k<p.files.length
      ·by_cases hm:m<=z
       ·obtain⟨x,M⟩:∃ x,p.files[k]?=some x:=⟨_,gG F⟩
        obtain⟨b,off,U,Y⟩:=(HP.files.below D.bel).elem rG k x M;obtain⟨e0,e1,e2,e3,e4,e5,e6,e7⟩:=cF8 Y;simp only[Nat.add_zero] at e0;clear Y;have V:=fun W=>gi (T:=35) (E:=57) (sz:=8) (c:=p.fc) underlying35 rfl sizeOf57 U F W;obtain⟨q0,r0,X⟩:=mj z x.path.size K (by omega);obtain⟨q3,r3,R3⟩:=mj z x.owner.size K (by omega);obtain⟨q4,r4,R4⟩:=mj z x.group.size K (by omega);obtain⟨q5,r5,R5⟩:=mj z x.link.size K (by omega);obtain⟨q6,r6,R6⟩:=mj z x.sum.size K (by omega);have HX:=fH M;clear M U;have HW:=fH (LW p.files k x HX);have O:=fH X;clear X;have ae:=fH R3;clear R3;have ab:=fH R4;clear R4;have af:=fH R5;clear R5;have aa:=fH R6;clear R6;have ag:=D.sz;go_wp2_with fail;have s0:IntKind.i64.wrap (m+1)=m+1:=IntWalk.i64_in _ (by omega);have s1:IntKind.i64.wrap (m+1+im z ↑x.path.size)=m+1+im z ↑x.path.size:=IntWalk.i64_in _ (by omega);have s2:IntKind.i64.wrap (m+1+im z ↑x.path.size+im z ↑x.owner.size)=m+1+im z ↑x.path.size+im z ↑x.owner.size:=IntWalk.i64_in _ (by omega);have s3:IntKind.i64.wrap (m+1+im z ↑x.path.size+im z ↑x.owner.size+im z ↑x.group.size)=m+1+im z ↑x.path.size+im z ↑x.owner.size+im z ↑x.group.size:=IntWalk.i64_in _ (by omega);have s4:IntKind.i64.wrap (m+1+im z ↑x.path.size+im z ↑x.owner.size+im z ↑x.group.size+im z ↑x.link.size)=m+1+im z ↑x.path.size+im z ↑x.owner.size+im z ↑x.group.size+im z ↑x.link.size:=IntWalk.i64_in _ (by omega);have Z:IntKind.i64.wrap (m+1+im z ↑x.path.size+im z ↑x.owner.size+im z ↑x.group.size+im z ↑x.link.size+im z ↑x.sum.size)=m+1+im z ↑x.path.size+im z ↑x.owner.size+im z ↑x.group.size+im z ↑x.link.size+im z ↑x.sum.size:=IntWalk.i64_in _ (by omega);go_quiet ((go_at_call 76;exact Calls.quiet_of_same (wV _ _ K h1 _)));clear s0 s1 s2 s3 s4 Z;go_wp2_with fail;have F1:Hid (m+1+im z ↑x.path.size+im z ↑x.owner.size+im z ↑x.group.size+im z ↑x.link.size+im z ↑x.sum.size<=z->m+1+im z ↑x.path.size+im z ↑x.owner.size+im z ↑x.group.size+im z ↑x.link.size+im z ↑x.sum.size=((kZ p+jx p.needs+jx p.bars+my p.gives+mz (p.files.take (k+1)):Nat):Int)):=by
         intro h;rw[HW.out];have:=J.out hm;have:=O.out (by omega);have:=ae.out (by omega);have:=ab.out (by omega);have:=af.out (by omega);have:=aa.out (by omega);omega
        go_roundw
        case rel=>exact⟨k+1,_,by omega,by go_num,rfl,by omega,by omega,F1,(D.step (bR.alloc lr _)).drewN _⟩
        case measure=>simp[intOf];omega
       ·go_wp2;go_meet;exact⟨m,rfl,H,I,(fun h=>by omega),D⟩
      ·go_wp2;go_meet;exact⟨m,rfl,H,I,(fun h=>by rw[J.out h,tL (by omega)]),D⟩
    case rest=>
     obtain⟨m,rfl,H,I,J,D⟩:=hcut;go_upto_block 8 with(fail)
     go_cut [5] (fun Z wx=>∃ m:Int,Z=.int .i64 m/\0<=m/\m<=6*z+6/\Hid (m<=z->m=((kZ p+jx p.needs+jx p.bars+my p.gives+mz p.files+mA p.scripts:Nat):Int))/\Hid (Bx w wx p.cells))
     case first=>
      go_wp2;go_loopw [5,11] (fun n i wr=>∃ (k:Nat) (m:Int),k<=p.scripts.length/\i=.int .i64 k/\n=.int .i64 m/\0<=m/\m<=6*z+6/\Hid (m<=z->m=((kZ p+jx p.needs+jx p.bars+my p.gives+mz p.files+mA (p.scripts.take k):Nat):Int))/\Hid (Bx w wr p.cells)) (fun _ i _=>p.scripts.length-(intOf i).toNat)
      case atStart=>exact⟨0,_,z0,rfl,rfl,H,I,(fun h=>by rw[J.out h];simp[mA]),D⟩
      case round=>
       obtain⟨k,m,hk,rfl,rfl,H,I,J,D⟩:=hrel;have hc:=D.cell 8 _ rfl;have R:=HF.scripts;by_cases F:k<p.scripts.length
       ·by_cases hm:m<=z
        ·obtain⟨x,M⟩:∃ x,p.scripts[k]?=some x:=⟨_,gG F⟩
         obtain⟨b,off,U,Y⟩:=(HP.scripts.below D.bel).elem ql k x M;have e1:=Y 1 _ rfl;clear Y;have V:=fun W=>gi (T:=36) (E:=59) (sz:=2) (c:=p.sc) underlying36 rfl sizeOf59 U F W;obtain⟨q1,r1,R1⟩:=mj z x.body.size K (by omega);have HX:=fH M;clear M U;have HW:=fH (GA p.scripts k x HX);have ad:=fH R1;clear R1;go_wp2_with fail;refine mb (yO _ _ K h1 _) ?_;rintro w' rfl;go_wp2_with fail;have F1:Hid (m+1+im z ↑x.body.size<=z->m+1+im z ↑x.body.size=((kZ p+jx p.needs+jx p.bars+my p.gives+mz p.files+mA (p.scripts.take (k+1)):Nat):Int)):=by
                    intro h;rw[HW.out];have:=J.out hm;have:=ad.out (by omega);omega
         go_roundw
         case rel=>exact⟨k+1,_,by omega,by go_num,rfl,by omega,by omega,F1,D⟩
         case measure=>simp[intOf];omega
        ·go_wp2;go_meet;exact⟨m,rfl,H,I,(fun h=>by omega),D⟩
       ·go_wp2;go_meet;exact⟨m,rfl,H,I,(fun h=>by rw[J.out h,tL (by omega)]),D⟩
     case rest=>
      obtain⟨m,rfl,H,I,J,D⟩:=hcut;go_wp2;go_ret;exact⟨⟨m,rfl,H,I,J⟩,D.bel⟩
theorem Rd.reads (h:Rd w sz A n xs)(z:0<sz):nE w w.heap.size sz A n xs:=by
 refine⟨h.1,fun F=>?_⟩;obtain⟨b,off,e,D⟩:=h.2 F;have H:0<xs.length:=by rw[h.1];exact Nat.mul_pos F z
 have J:=D 0 _ (gG H);refine⟨_,e,World.block_lt_of_cell? _ _ J,fun j u I=>?_⟩;have:=D j u I;unfold Addr.add;split
 ·rename_i h;subst h;exact this
 ·exact this
def pY (w:World)(E:TypeId)(sz n:Nat)(xs:LV)(e:Ending)(w':World):Prop:=∃ v,e=.returned v/\w'.ownsRow w.heap.size E sz v n xs/\Bw w w'
theorem JY:(prog.info? 38).map (fun i=>(i.zero,i.size,i.bytes))=some (some (.agg #[.string ⟨#[]⟩,.string ⟨#[]⟩,.string ⟨#[]⟩,.string ⟨#[]⟩,.slice none 0 0,.slice none 0 0,.slice none 0 0,.slice none 0 0,.slice none 0 0]),9,184):=by kernel_rfl
theorem GC (A:OA)(n c:Nat)(D:LV)(w:World)(U:Rd w 9 A n D)(V:∀ u∈D,u.oneCell'=true)(hn:n<=100000):Calls prog 41 #[.slice A n c] w (pY w 38 9 n D):=by
 obtain⟨O,H,I,J,F⟩:=info_parts JY;have Y:=fH U;have R:=fH V;go_in;go_wp2_with (at_builtin;refine fR _ rfl (.const (.slice none 0 0)) (.tmp 3) _ rfl w.heap.size 38 O _ 9 184 underlying22 H I J F rfl (by omega) (.slice none 0 0) 0 [] rfl ⟨by simp,.inl ⟨rfl,rfl⟩⟩ w.heap.size A n c D rfl (Y.reads (by omega)) R (by simp only[maxLen];omega) (by omega) lr ?_;intro X Z z K M);go_ret;exact⟨X,rfl,by simpa using z,bR.grown K lr (by simp[Value.ownBlock])⟩
theorem tJ:(prog.info? 9).map (fun i=>(i.zero,i.size,i.bytes))=some (some (.string ⟨#[]⟩),1,16):=by kernel_rfl
theorem If (A:OA)(n c:Nat)(D:LV)(w:World)(U:Rd w 1 A n D)(V:∀ u∈D,u.oneCell'=true)(hn:n<=100000):Calls prog 42 #[.slice A n c] w (pY w 9 1 n D):=by
 obtain⟨O,H,I,J,F⟩:=info_parts tJ;have Y:=fH U;have R:=fH V;go_in;go_wp2_with (at_builtin;refine fR _ rfl (.const (.slice none 0 0)) (.tmp 3) _ rfl w.heap.size 9 O _ 1 16 underlying33 H I J F rfl (by omega) (.slice none 0 0) 0 [] rfl ⟨by simp,.inl ⟨rfl,rfl⟩⟩ w.heap.size A n c D rfl (Y.reads (by omega)) R (by simp only[maxLen];omega) (by omega) lr ?_;intro X Z z K M);go_ret;exact⟨X,rfl,by simpa using z,bR.grown K lr (by simp[Value.ownBlock])⟩
theorem TN:(prog.info? 78).map (fun i=>(i.zero,i.size,i.bytes))=some (some (.agg #[.string ⟨#[]⟩,.int .i64 0,.string ⟨#[]⟩]),3,40):=by kernel_rfl
theorem Pe (A:OA)(n c:Nat)(D:LV)(w:World)(U:Rd w 3 A n D)(V:∀ u∈D,u.oneCell'=true)(hn:n<=100000):Calls prog 43 #[.slice A n c] w (pY w 78 3 n D):=by
 obtain⟨O,H,I,J,F⟩:=info_parts TN;have Y:=fH U;have R:=fH V;go_in;go_wp2_with (at_builtin;refine fR _ rfl (.const (.slice none 0 0)) (.tmp 3) _ rfl w.heap.size 78 O _ 3 40 underlying34 H I J F rfl (by omega) (.slice none 0 0) 0 [] rfl ⟨by simp,.inl ⟨rfl,rfl⟩⟩ w.heap.size A n c D rfl (Y.reads (by omega)) R (by simp only[maxLen];omega) (by omega) lr ?_;intro X Z z K M);go_ret;exact⟨X,rfl,by simpa using z,bR.grown K lr (by simp[Value.ownBlock])⟩
theorem TQ:(prog.info? 57).map (fun i=>(i.zero,i.size,i.bytes))=some (some (.agg #[.string ⟨#[]⟩,.int .i64 0,.int .i64 0,.string ⟨#[]⟩,.string ⟨#[]⟩,.string ⟨#[]⟩,.string ⟨#[]⟩,.bool false]),8,104):=by kernel_rfl
theorem Pf (A:OA)(n c:Nat)(D:LV)(w:World)(U:Rd w 8 A n D)(V:∀ u∈D,u.oneCell'=true)(hn:n<=100000):Calls prog 44 #[.slice A n c] w (pY w 57 8 n D):=by
 obtain⟨O,H,I,J,F⟩:=info_parts TQ;have Y:=fH U;have R:=fH V;go_in;go_wp2_with (at_builtin;refine fR _ rfl (.const (.slice none 0 0)) (.tmp 3) _ rfl w.heap.size 57 O _ 8 104 underlying35 H I J F rfl (by omega) (.slice none 0 0) 0 [] rfl ⟨by simp,.inl ⟨rfl,rfl⟩⟩ w.heap.size A n c D rfl (Y.reads (by omega)) R (by simp only[maxLen];omega) (by omega) lr ?_;intro X Z z K M);go_ret;exact⟨X,rfl,by simpa using z,bR.grown K lr (by simp[Value.ownBlock])⟩
theorem LX:(prog.info? 59).map (fun i=>(i.zero,i.size,i.bytes))=some (some (.agg #[.int .i64 0,.string ⟨#[]⟩]),2,24):=by kernel_rfl
theorem JZ (A:OA)(n c:Nat)(D:LV)(w:World)(U:Rd w 2 A n D)(V:∀ u∈D,u.oneCell'=true)(hn:n<=100000):Calls prog 45 #[.slice A n c] w (pY w 59 2 n D):=by
 obtain⟨O,H,I,J,F⟩:=info_parts LX;have Y:=fH U;have R:=fH V;go_in;go_wp2_with (at_builtin;refine fR _ rfl (.const (.slice none 0 0)) (.tmp 3) _ rfl w.heap.size 59 O _ 2 24 underlying36 H I J F rfl (by omega) (.slice none 0 0) 0 [] rfl ⟨by simp,.inl ⟨rfl,rfl⟩⟩ w.heap.size A n c D rfl (Y.reads (by omega)) R (by simp only[maxLen];omega) (by omega) lr ?_;intro X Z z K M);go_ret;exact⟨X,rfl,by simpa using z,bR.grown K lr (by simp[Value.ownBlock])⟩
theorem jS (h:a.grownBy w row)(n:Nat):a.grownBy (w.drewN n) row:=⟨h.os,h.tape,h.output,h.size,h.block⟩
theorem ny (h:a.grownBy w row)(o:Obj):a.grownBy (w.alloc o) row:=
 ⟨h.os,h.tape,h.output,Nat.le_trans h.size (by simp),fun i D z=>(Below.heap_alloc w o i (Nat.lt_of_lt_of_le D h.size)).trans (h.block i D z)⟩
theorem fX (h:a.grownBy w (some g)){p:Addr}(D:p.block=g\/a.heap.size<=p.block)(u:Value):a.grownBy (w.setCell p u) (some g):=
 ⟨h.os,h.tape,h.output,by simpa [World.setCell] using h.size,fun i F z=>(Below.heap_setCell w p u i (by
  rintro rfl;rcases D with D | D
  ·exact z (by rw[D])
  ·omega)).trans (h.block i F z)⟩
theorem iu (h:a.grownBy w row)(z:Bw w w'):a.grownBy w' row:=
 ⟨z.os.trans h.os,z.tape.trans h.tape,z.output.trans h.output,Nat.le_trans h.size z.size,fun i D F=>(z.block i (Nat.lt_of_lt_of_le D h.size)).trans (h.block i D F)⟩
theorem ge (h:w.ownsRow base e size v n xs)(O:Bw w w'):w'.ownsRow base e size v n xs:=by
 refine⟨h.1,?_⟩;rcases h.2 with K | ⟨g,cap,z,F,R,D,J,H,M,I⟩
 ·exact .inl K
 ·exact .inr ⟨g,cap,z,F,R,(O.block g (Array.getElem?_eq_some_iff.1 D).1).trans D,J,H,M,I⟩
theorem gg (h:w.ownsRow base e size v n xs):∃ A c,v=.slice A n c:=by
 rcases h.2 with⟨rfl,rfl⟩ | ⟨g,cap,z,D,_⟩
 ·exact⟨none,0,rfl⟩
 ·exact⟨_,_,D⟩
theorem gF {base':Nat}(h:w.ownsRow base e size v n xs)(H:base'<=base):w.ownsRow base' e size v n xs:=by
 refine⟨h.1,?_⟩;rcases h.2 with F | ⟨g,cap,z,D,I,r⟩
 ·exact .inl F
 ·exact .inr ⟨g,cap,z,D,Nat.le_trans H I,r⟩
theorem gR (h:w.ownsRow base e size (.slice A n c) n xs):Rd w size A n xs:=by
 refine⟨h.1,fun J=>?_⟩;obtain⟨g,cap,D,_,z⟩:=h.form J;have I:A=some ⟨g,0,none⟩:=by injection D
 subst I;refine⟨g,0,rfl,fun j u F=>?_⟩;have:=h.cells (g:=g) rfl j u F;unfold Addr.add at this;rw[Nat.zero_add];split at this
 ·rename_i H;subst H;exact this
 ·simpa using this
structure lS (q:fZ) (w:World) (lo:Nat):Prop where
 needs:w.ownsRow lo 9 1 (.slice q.na q.needs.length q.nc) q.needs.length (strCells q.needs)
 bars:w.ownsRow lo 9 1 (.slice q.ba q.bars.length q.bc) q.bars.length (strCells q.bars)
 gives:w.ownsRow lo 78 3 (.slice q.ga q.gives.length q.gc) q.gives.length (q.gives.flatMap fP.cells)
 files:w.ownsRow lo 57 8 (.slice q.fa q.files.length q.fc) q.files.length (q.files.flatMap fW.cells)
 scripts:w.ownsRow lo 59 2 (.slice q.sa q.scripts.length q.sc) q.scripts.length (q.scripts.flatMap gE.cells)
theorem gZ (h:w.ownsRow lo e size v n xs)(F:g<lo)(D:w.grownBy w' (some g)):w'.ownsRow lo e size v n xs:=by
 refine h.kept D ?_;cases hb:v.ownBlock with
 | none=>exact .inl rfl
 | some k=>right;intro z;have:=(h.lt k hb).1;injection z with z;omega
theorem lS.kept {q:fZ}(h:lS q w lo)(z:g<lo)(D:w.grownBy w' (some g)):lS q w' lo:=
 ⟨gZ h.1 z D,gZ h.2 z D,gZ h.3 z D,gZ h.4 z D,gZ h.5 z D⟩
theorem lS.below {q:fZ}(h:lS q w lo)(z:Bw w w'):lS q w' lo:=
 ⟨ge h.1 z,ge h.2 z,ge h.3 z,ge h.4 z,ge h.5 z⟩
structure fZ.alike (p q:fZ):Prop where
 nm:p.nm=q.nm
 ver:p.ver=q.ver
 ar:p.ar=q.ar
 sm:p.sm=q.sm
 needs:p.needs=q.needs
 bars:p.bars=q.bars
 gives:p.gives=q.gives
 files:p.files=q.files
 scripts:p.scripts=q.scripts
def Sg (p q:fZ):Prop:=(∀ g g',(Value.slice p.ga p.gives.length p.gc).ownBlock=some g->(Value.slice q.ga q.gives.length q.gc).ownBlock=some g'->g<g')/\(∀ g g',(Value.slice p.fa p.files.length p.fc).ownBlock=some g->(Value.slice q.fa q.files.length q.fc).ownBlock=some g'->g<g')
structure adb (w:World) (lo g0:Nat) (v:Value) (l:List fZ):Prop where
 row:w.ownsRow lo 38 9 v l.length (l.flatMap fZ.cells)
 blk:0<l.length->v.ownBlock=some g0
 all:∀ q∈l,lS q w (g0+1)
 far:l.Pairwise Sg
theorem ab2 (z r:List fZ)(p:fZ)(k j:Nat)(u:Value)(F:z.length=k)(H:j<9):((z++p::r).flatMap fZ.cells).set (k*9+j) u=z.flatMap fZ.cells++(p.cells.set j u++r.flatMap fZ.cells):=by
 have D:(z.flatMap fZ.cells).length=k*9:=by rw[mw lk,F]
 rw[List.flatMap_append,List.flatMap_cons,List.set_append_right _ _ (by omega),D,show k*9+j-k*9=j from by omega,List.set_append_left _ _ (by rw[lk];omega)]
theorem fN {b c:World}(h:a.grownBy b row)(k:b.grownBy c row):a.grownBy c row:=
 ⟨k.os.trans h.os,k.tape.trans h.tape,k.output.trans h.output,Nat.le_trans h.size k.size,fun i z D=>(k.block i (Nat.lt_of_lt_of_le z h.size) D).trans (h.block i z D)⟩
theorem kP {b:World}(h:Bw w a)(k:a.grownBy b (some g))(D:w.heap.size<=g):Bw w b:=
 h.grown k h.size (fun j z=>by injection z with z;omega)
theorem J0 {p:fZ}{b:World}(z:p.ok w)(h:Bw w a)(k:a.grownBy b (some g))(D:w.heap.size<=g):Hid (p.ok b):=z.below (kP h k D)
theorem ab3 (z r:List fZ)(p:fZ)(k:Nat)(D:z.length=k)  : ((z++p::r).flatMap fZ.cells)[k*9+4]?=some (.slice p.na p.needs.length p.nc):=by
 exact pO lk (z++p::r) k 4 p (by rw[List.getElem?_append_right (by omega)];simp[D]) (by omega)
theorem ab4 (z r:List fZ)(p:fZ)(k:Nat)(D:z.length=k)(u0:Value):(((z++p::r).flatMap fZ.cells).set (k*9+4) u0)[k*9+5]?=some (.slice p.ba p.bars.length p.bc):=by
 rw[List.getElem?_set_ne (by omega)];exact pO lk (z++p::r) k 5 p (by rw[List.getElem?_append_right (by omega)];simp[D]) (by omega)
theorem ab5 (z r:List fZ)(p:fZ)(k:Nat)(D:z.length=k)(u0:Value)(u1:Value):((((z++p::r).flatMap fZ.cells).set (k*9+4) u0).set (k*9+5) u1)[k*9+6]?=some (.slice p.ga p.gives.length p.gc):=by
 rw[List.getElem?_set_ne (by omega)];rw[List.getElem?_set_ne (by omega)];exact pO lk (z++p::r) k 6 p (by rw[List.getElem?_append_right (by omega)];simp[D]) (by omega)
theorem ab6 (z r:List fZ)(p:fZ)(k:Nat)(D:z.length=k)(u0:Value)(u1:Value)(u2:Value):(((((z++p::r).flatMap fZ.cells).set (k*9+4) u0).set (k*9+5) u1).set (k*9+6) u2)[k*9+7]?=some (.slice p.fa p.files.length p.fc):=by
 rw[List.getElem?_set_ne (by omega)];rw[List.getElem?_set_ne (by omega)];rw[List.getElem?_set_ne (by omega)];exact pO lk (z++p::r) k 7 p (by rw[List.getElem?_append_right (by omega)];simp[D]) (by omega)
theorem ab7 (z r:List fZ)(p:fZ)(k:Nat)(D:z.length=k)(u0:Value)(u1:Value)(u2:Value)(u3:Value):((((((z++p::r).flatMap fZ.cells).set (k*9+4) u0).set (k*9+5) u1).set (k*9+6) u2).set (k*9+7) u3)[k*9+8]?=some (.slice p.sa p.scripts.length p.sc):=by
 rw[List.getElem?_set_ne (by omega)];rw[List.getElem?_set_ne (by omega)];rw[List.getElem?_set_ne (by omega)];rw[List.getElem?_set_ne (by omega)];exact pO lk (z++p::r) k 8 p (by rw[List.getElem?_append_right (by omega)];simp[D]) (by omega)
theorem Ce (a b c:LV)(k j:Nat)(u:Value)(D:a.length=k*9)(z:j<b.length):(a++(b++c)).set (k*9+j) u=a++(b.set j u++c):=by
 rw[List.set_append_right _ _ (by omega),D,show k*9+j-k*9=j from by omega,List.set_append_left _ _ z]
theorem WY (z r:List fZ)(p:fZ)(k:Nat)(I:z.length=k)(J K R F V:OA)(X H M U O:Nat):
  ((((((z++p::r).flatMap fZ.cells).set (k*9+4) (.slice J p.needs.length X)).set (k*9+5) (.slice K p.bars.length H)).set (k*9+6) (.slice R p.gives.length M)).set (k*9+7) (.slice F p.files.length U)).set (k*9+8) (.slice V p.scripts.length O) =
    ((z++[({ p with na:=J,nc:=X,ba:=K,bc:=H,ga:=R,gc:=M,fa:=F,fc:=U,sa:=V,sc:=O }:fZ)])++r).flatMap fZ.cells:=by
 have D:(z.flatMap fZ.cells).length=k*9:=by rw[mw lk,I]
 rw[ab2 z r p k 4 _ I (by omega),Ce _ _ _ k 5 _ D (by simp[fZ.cells]),Ce _ _ _ k 6 _ D (by simp[fZ.cells]),Ce _ _ _ k 7 _ D (by simp[fZ.cells]),Ce _ _ _ k 8 _ D (by simp[fZ.cells])];rw[List.append_assoc,List.flatMap_append,List.singleton_append,List.flatMap_cons];rfl
theorem Pg {l qs:List fZ}{p q:fZ}(I:qs.length=k)(h:∀ (i:Nat)(p q:fZ),l[i]?=some p->qs[i]?=some q->p.alike q)(H:l[k]?=some p)(J:p.alike q):
  ∀ (i:Nat)(x y:fZ),l[i]?=some x->(qs++[q])[i]?=some y->x.alike y:=by
 intro i x y D z;by_cases K:i<qs.length
 ·rw[List.getElem?_append_left K] at z;exact h i x y D z
 ·rw[List.getElem?_append_right (by omega)] at z;have F:i=k:=by
   have:=(gS z).1;simp at this;omega
  subst F;rw[I,Nat.sub_self] at z;simp at z;rw[H] at D;injection D with D;subst D z;exact J
end
section
open Go.RowKit Go.Extern.Stop Go.Stop Go.Extern
theorem Ki (t:Addr)(w:World):(ReflectliteValue.unpack (.iface 246 (.pointer (some t)))).run prog w
  = .ok (.agg #[.pointer (some ⟨13,246,none⟩),.pointer (some ⟨w.heap.size,0,none⟩),.int .u64 150]) (w.alloc (.cells #[.pointer (some t)] 246)):=by kernel_rfl
theorem Mr (a c:Int)(w:World):(ReflectliteValue.unpack (.iface 242 (.agg #[.int .i64 a,.int .i64 c]))).run prog w
  = .ok (.agg #[.pointer (some ⟨13,242,none⟩),.pointer (some ⟨w.heap.size,0,none⟩),.int .u64 153]) (w.alloc (.cells #[.int .i64 a,.int .i64 c] 242)):=by kernel_rfl
theorem Uo (a : Addr) (w : World) : (ReflectliteValue.methodAny (ReflectliteValue.valueError "reflectlite.Value.Type" 0) (fun t _ _ _ => ReflectliteType.toType t) #[.agg #[.pointer (some ⟨13, 246, none⟩), .pointer (some a), .int .u64 150]]).run prog w
  = .ok (.iface 337 (.agg #[.pointer (some ⟨13,246,none⟩)])) w:=by kernel_rfl
theorem vD (n : Nat) (h : Value) (w : World) : (Go.method (n + 1) 337 (.agg #[h]) "Kind").run prog w = .ok (311, h) w := by kernel_rfl
theorem vE (n : Nat) (h : Value) (w : World) : (Go.method (n + 1) 337 (.agg #[h]) "Elem").run prog w = .ok (324, .agg #[h]) w := by kernel_rfl
theorem pI (n : Nat) (h : Value) (w : World) : (Go.method (n + 1) 337 (.agg #[h]) "Implements").run prog w = .ok (325, .agg #[h]) w := by kernel_rfl
theorem oC (n : Nat) (h : Value) (w : World) : (Go.method (n + 1) 337 (.agg #[h]) "AssignableTo").run prog w = .ok (322, .agg #[h]) w := by kernel_rfl
theorem Up (w:World):((ReflectliteType.abiMethod fun t=>(fun a:Nat=>Value.int IntKind.u8 (a:Int)) <$> Rtype.kind t) #[.pointer (some ⟨13,246,none⟩)]).run prog w=.ok (.int .u8 22) w:=by kernel_rfl
theorem Xu (w:World):((ReflectliteType.abiMethod fun t=>(fun a:Nat=>Value.int IntKind.u8 (a:Int)) <$> Rtype.kind t) #[.pointer (some ⟨13,242,none⟩)]).run prog w=.ok (.int .u8 25) w:=by kernel_rfl
theorem Uq (w:World):(ReflectliteType.method ReflectliteType.elem #[.agg #[.pointer (some ⟨13,246,none⟩)]]).run prog w=.ok (.iface 337 (.agg #[.pointer (some ⟨13,242,none⟩)])) w:=by kernel_rfl
theorem Dp (w : World) : (ReflectliteType.relation "Implements" ReflectliteType.implements_ #[.agg #[.pointer (some ⟨13, 242, none⟩)], .iface 337 (.agg #[.pointer (some ⟨13, 191, none⟩)])]).run prog w = .ok (.bool true) w := by kernel_rfl
theorem Dq (v:Value)(w:World):(ReflectliteType.typeOf #[.iface 242 v]).run prog w=.ok (.iface 337 (.agg #[.pointer (some ⟨13,242,none⟩)])) w:=by kernel_rfl
theorem Ds (w : World) : (ReflectliteType.relation "AssignableTo" ReflectliteType.assignableTo #[.agg #[.pointer (some ⟨13, 242, none⟩)], .iface 337 (.agg #[.pointer (some ⟨13, 242, none⟩)])]).run prog w = .ok (.bool true) w := by kernel_rfl
theorem rlm (z:Sem Value)(f:TypeId->Addr->Nat->Nat->Sem Value)(v:Value):
  ReflectliteValue.method z f #[v]=(do match <-ReflectliteValue.parts v with | none=>z | some (t,a,fl)=>f t a fl (fl % 32)):=rfl
theorem Dt (a:Addr)(w:World):(ReflectliteValue.parts (.agg #[.pointer (some ⟨13,246,none⟩),.pointer (some a),.int .u64 150])).run prog w=.ok (some (246,a,150)) w:=by kernel_rfl
theorem PH (a p:Addr)(W:World)(z:W.cell? a=some (.pointer (some p))):
  (ReflectliteValue.method (ReflectliteValue.valueError "reflectlite.Value.IsNil" 0) ReflectliteValue.isNil #[.agg #[.pointer (some ⟨13, 246, none⟩), .pointer (some a), .int .u64 150]]).run prog W = .ok (.bool false) W := by
 rw[rlm];simp only[Sem.run_bind,Dt,Result.andThen];simp[ReflectliteValue.isNil,loadVar,isAgg,underlying,underlying246,z,Result.andThen]
theorem Ms (w:World):(Rtype.elem? 246).run prog w=.ok (some 242) w:=by kernel_rfl
theorem acd (p:Addr)(w:World):(ReflectliteValue.mk 242 p ReflectliteValue.flagAddr).run prog w=.ok (.agg #[.pointer (some ⟨13,242,none⟩),.pointer (some p),.int .u64 409]) w:=by kernel_rfl
theorem PI (a p:Addr)(W:World)(z:W.cell? a=some (.pointer (some p))):
  (ReflectliteValue.method (ReflectliteValue.valueError "reflectlite.Value.Elem" 0) ReflectliteValue.elem #[.agg #[.pointer (some ⟨13, 246, none⟩), .pointer (some a), .int .u64 150]]).run prog W
   = .ok (.agg #[.pointer (some ⟨13,242,none⟩),.pointer (some p),.int .u64 409]) W:=by
 rw[rlm];simp only[Sem.run_bind,Dt,Result.andThen];simp[ReflectliteValue.elem,loadVar,isAgg,underlying,underlying246,z,Result.andThen,Ms,acd]
theorem rls (v x:Value):ReflectliteValue.set #[v,x]=(do
  let(some (dst,a,fl),some (src,b,_)):=(<-ReflectliteValue.parts v,<-ReflectliteValue.parts x)
   | unsupported (.noEntry "extern/(internal/reflectlite.Value).Set.zeroValue")
  if fl / ReflectliteValue.flagAddr % 2 == 0 then unsupported (.noEntry "extern/(internal/reflectlite.Value).Set.unaddressable")
  let val <-loadVar src b
  if <-Rtype.directlyAssignable dst src then storeVar dst a val
  else if <-Rtype.implements dst src then
   if (<-Rtype.kind src)==20 then
    match val with
    | .nilIface => unsupported (.noEntry "extern/reflectlite: a nil value of one interface type handed on as a value of another")
    | _=>storeVar dst a val
   else storeVar dst a (.iface src val)
  else panicString ("reflectlite.Set: value of type " ++ (<- Rtype.spelt src) ++ " is not assignable to type " ++ (<- Rtype.spelt dst))
  pure (.tuple #[])):=rfl
theorem PJ (a:Addr)(w:World):(ReflectliteValue.parts (.agg #[.pointer (some ⟨13,242,none⟩),.pointer (some a),.int .u64 409])).run prog w=.ok (some (242,a,409)) w:=by kernel_rfl
theorem Ur (a:Addr)(w:World):(ReflectliteValue.parts (.agg #[.pointer (some ⟨13,242,none⟩),.pointer (some a),.int .u64 153])).run prog w=.ok (some (242,a,153)) w:=by kernel_rfl
theorem PK (w:World):(Rtype.directlyAssignable 242 242).run prog w=.ok true w:=by kernel_rfl
theorem aae (b c:Nat)(x y:Int)(U I:Value)(W:World)(D:W.cell? ⟨c,0,none⟩=some (.int .i64 x))(F:W.cell? ⟨c,1,none⟩=some (.int .i64 y))(O:W.cell? ⟨b,0,none⟩=some U)(M:W.cell? ⟨b,1,none⟩=some I)(R:W.frozen? ⟨b,0,none⟩=false)(J:W.frozen? ⟨b,1,none⟩=false):
  (ReflectliteValue.set #[.agg #[.pointer (some ⟨13,242,none⟩),.pointer (some ⟨b,0,none⟩),.int .u64 409],.agg #[.pointer (some ⟨13,242,none⟩),.pointer (some ⟨c,0,none⟩),.int .u64 153]]).run prog W
   = .ok (.tuple #[]) ((W.setCell ⟨b,0,none⟩ (.int .i64 x)).setCell ⟨b,1,none⟩ (.int .i64 y)):=by
 have K:(loadCells ⟨c,0,none⟩ 2).run prog W=.ok #[.int .i64 x,.int .i64 y] W:=by
  refine run_loadCells_list _ ⟨c,0,none⟩ [.int .i64 x,.int .i64 y] (fun j v z=>?_)
  match j,z with
  | 0,z=>simp at z;subst z;simpa [Addr.add] using D
  | 1,z=>simp at z;subst z;simpa [Addr.add] using F
  | j+2,z=>simp at z
 have H:(W.setCell ⟨b,0,none⟩ (.int .i64 x)).cell? ⟨b,1,none⟩=some I:=by
  rw[World.cell?_setCell_other (h:=by intro h;injection h with _ h;omega)];exact M
 rw[rls];simp only[Sem.run_bind,PJ,Ur,Result.andThen];simp[ReflectliteValue.flagAddr,loadVar,isAgg,underlying,underlying242,K,Result.andThen,PK,storeVar,Value.cells,storeCells,Addr.add];rw[run_store prog W ⟨b,0,none⟩ _ _ (by rfl)];simp only[O,R,Bool.false_eq_true,if_false];rw[run_store prog _ ⟨b,1,none⟩ _ _ (by rfl)];simp[H,J]
def Mt (w:World):Prop:=Gl w/\w.cell? ⟨2,0,none⟩=some (.iface 337 (.agg #[.pointer (some ⟨13,191,none⟩)]))
theorem Mt.below (h:Mt w)(z:Bw w w'):Mt w':=⟨h.1.below z,(z.cell (World.block_lt_of_cell? _ _ h.2)).trans h.2⟩
theorem Xv (b:Nat)(x y:Int)(w:World)(X:w.cell? ⟨2,0,none⟩=some (.iface 337 (.agg #[.pointer (some ⟨13,191,none⟩)])))(R:fV w b [.int .i64 0,.int .i64 0]):Calls prog 154 #[.iface 242 (.agg #[.int .i64 x,.int .i64 y]),.iface 246 (.pointer (some ⟨b,0,none⟩))] w fun e w'=>e=.returned (.bool true)/\fV w' b [.int .i64 x,.int .i64 y]/\w.grownBy w' (some b):=by
 have e1:=@run_callFunc_extern prog 205 _ (fun H=>ReflectliteValue.unpack (H.getD 0 (.tuple #[]))) func205 (by kernel_rfl) (by kernel_rfl) (by kernel_rfl) (by kernel_rfl);have e2 := @run_callFunc_extern prog 206 _ (ReflectliteValue.methodAny (ReflectliteValue.valueError "reflectlite.Value.Type" 0) (fun t _ _ _ => ReflectliteType.toType t)) func206 (by kernel_rfl) (by kernel_rfl) (by kernel_rfl) (by kernel_rfl);have e3 := @run_callFunc_extern prog 207 _ (ReflectliteValue.method (ReflectliteValue.valueError "reflectlite.Value.IsNil" 0) ReflectliteValue.isNil) func207 (by kernel_rfl) (by kernel_rfl) (by kernel_rfl) (by kernel_rfl);have e4:=@run_callFunc_extern prog 311 _ (ReflectliteType.abiMethod fun t=>do pure (.int .u8 (<-Rtype.kind t))) func311 (by kernel_rfl) (by kernel_rfl) (by kernel_rfl) (by kernel_rfl);have e5:=@run_callFunc_extern prog 324 _ (ReflectliteType.method ReflectliteType.elem) func324 (by kernel_rfl) (by kernel_rfl) (by kernel_rfl) (by kernel_rfl);have e6 := @run_callFunc_extern prog 325 _ (ReflectliteType.relation "Implements" ReflectliteType.implements_) func325 (by kernel_rfl) (by kernel_rfl) (by kernel_rfl) (by kernel_rfl);have e7:=@run_callFunc_extern prog 254 _ ReflectliteType.typeOf func254 (by kernel_rfl) (by kernel_rfl) (by kernel_rfl) (by kernel_rfl);have e8 := @run_callFunc_extern prog 322 _ (ReflectliteType.relation "AssignableTo" ReflectliteType.assignableTo) func322 (by kernel_rfl) (by kernel_rfl) (by kernel_rfl) (by kernel_rfl);have e9 := @run_callFunc_extern prog 255 _ (ReflectliteValue.method (ReflectliteValue.valueError "reflectlite.Value.Elem" 0) ReflectliteValue.elem) func255 (by kernel_rfl) (by kernel_rfl) (by kernel_rfl) (by kernel_rfl);have Z:=@run_callFunc_extern prog 256 _ ReflectliteValue.set func256 (by kernel_rfl) (by kernel_rfl) (by kernel_rfl) (by kernel_rfl);have m1:=vD;have m2:=vE;have m3:=pI;have m4:=oC;have q1:=Ki;have q2:=Mr;have q3:=Uo;have q4:=Up;have q5:=Xu;have q6:=Uq;have q7:=Dp;have q8:=Dq;have q9:=Ds;have D:=World.block_lt_of_cell? _ _ X;have D:2<w.heap.size:=D;have aa:=R.sz
 let W1:=w.alloc (.cells #[.pointer (some ⟨b,0,none⟩)] 246)
 let W2:=W1.alloc (.cells #[.pointer (some ⟨13,246,none⟩),.pointer (some ⟨w.heap.size,0,none⟩),.int .u64 150] 298)
 let W3:=W2.alloc (.cells #[.pointer (some ⟨13,246,none⟩),.pointer (some ⟨w.heap.size,0,none⟩),.int .u64 150] 298)
 let W4:=W3.alloc (.cells #[.int .i64 x,.int .i64 y] 242)
 have U:fV W1 w.heap.size [.pointer (some ⟨b,0,none⟩)]:=fV.new w _ _;have K:fV W2 w.heap.size [.pointer (some ⟨b,0,none⟩)]:=U.alloc _;have V:fV W3 w.heap.size [.pointer (some ⟨b,0,none⟩)]:=K.alloc _;have M:fV W4 (w.heap.size+1+1+1) [.int .i64 x,.int .i64 y]:=by have:=fV.new W3 [.int .i64 x,.int .i64 y] 242;simpa [W3,W2,W1] using this
 have F:fV W4 b [.int .i64 0,.int .i64 0]:=(((R.alloc _).alloc _).alloc _).alloc _;have n8:=PH ⟨w.heap.size,0,none⟩ ⟨b,0,none⟩ W2 (K.cell 0 _ rfl);have Y:=PI ⟨w.heap.size,0,none⟩ ⟨b,0,none⟩ W3 (V.cell 0 _ rfl);have st:=aae b (w.heap.size+1+1+1) x y _ _ W4 (M.cell 0 _ rfl) (M.cell 1 _ rfl) (F.cell 0 _ rfl) (F.cell 1 _ rfl) (F.free 0 (by simp)) (F.free 1 (by simp));have O:W2.cell? ⟨2,0,none⟩=some (.iface 337 (.agg #[.pointer (some ⟨13,191,none⟩)])):=by
  show((w.alloc _).alloc _).cell? _=_;rw[World.cell?_alloc_lt _ _ ⟨2,0,none⟩ (by simp;omega),World.cell?_alloc_lt _ _ ⟨2,0,none⟩ D];exact X
 have I:Hid (fV ((W4.setCell ⟨b,0,none⟩ (.int .i64 x)).setCell ⟨b,1,none⟩ (.int .i64 y)) b [.int .i64 x,.int .i64 y]):=(F.set 0 (by simp) _).set 1 (by simp) _;have J:Hid (w.grownBy ((W4.setCell ⟨b,0,none⟩ (.int .i64 x)).setCell ⟨b,1,none⟩ (.int .i64 y)) (some b)):=by
  have z:Bw w W4:=(((bR.alloc lr _).alloc (by simp) _).alloc (by simp;omega) _).alloc (by simp;omega) _;have g4:w.grownBy W4 (some b):=⟨z.os,z.tape,z.output,z.size,fun i hi _=>z.block i hi⟩
  exact fX (fX g4 (.inl rfl) _) (.inl rfl) _
 simp only[W4,W3,W2,W1] at n8 Y st O I J;clear U K V M F R;clear W4 W3 W2 W1;go_in;go_wp2;refine wp_loop_rounds 1 ?_;rw[rounds_succ];go_wp2;go_ret;exact⟨rfl,I,J⟩
theorem Kj (t:Addr)(w:World):(ReflectliteValue.unpack (.iface 247 (.pointer (some t)))).run prog w
  = .ok (.agg #[.pointer (some ⟨13,247,none⟩),.pointer (some ⟨w.heap.size,0,none⟩),.int .u64 150]) (w.alloc (.cells #[.pointer (some t)] 247)):=by kernel_rfl
theorem Us (a : Addr) (w : World) : (ReflectliteValue.methodAny (ReflectliteValue.valueError "reflectlite.Value.Type" 0) (fun t _ _ _ => ReflectliteType.toType t) #[.agg #[.pointer (some ⟨13, 247, none⟩), .pointer (some a), .int .u64 150]]).run prog w
  = .ok (.iface 337 (.agg #[.pointer (some ⟨13,247,none⟩)])) w:=by kernel_rfl
theorem Ut (w:World):((ReflectliteType.abiMethod fun t=>(fun a:Nat=>Value.int IntKind.u8 (a:Int)) <$> Rtype.kind t) #[.pointer (some ⟨13,247,none⟩)]).run prog w=.ok (.int .u8 22) w:=by kernel_rfl
theorem Uu (w:World):(ReflectliteType.method ReflectliteType.elem #[.agg #[.pointer (some ⟨13,247,none⟩)]]).run prog w=.ok (.iface 337 (.agg #[.pointer (some ⟨13,45,none⟩)])) w:=by kernel_rfl
theorem Du (w : World) : (ReflectliteType.relation "Implements" ReflectliteType.implements_ #[.agg #[.pointer (some ⟨13, 45, none⟩)], .iface 337 (.agg #[.pointer (some ⟨13, 191, none⟩)])]).run prog w = .ok (.bool true) w := by kernel_rfl
theorem PL (v:Value)(w:World):(ReflectliteType.typeOf #[.iface 45 v]).run prog w=.ok (.iface 337 (.agg #[.pointer (some ⟨13,45,none⟩)])) w:=by kernel_rfl
theorem Dv (w : World) : (ReflectliteType.relation "AssignableTo" ReflectliteType.assignableTo #[.agg #[.pointer (some ⟨13, 45, none⟩)], .iface 337 (.agg #[.pointer (some ⟨13, 45, none⟩)])]).run prog w = .ok (.bool true) w := by kernel_rfl
theorem Dw (a:Addr)(w:World):(ReflectliteValue.parts (.agg #[.pointer (some ⟨13,247,none⟩),.pointer (some a),.int .u64 150])).run prog w=.ok (some (247,a,150)) w:=by kernel_rfl
theorem PM (a p:Addr)(W:World)(z:W.cell? a=some (.pointer (some p))):
  (ReflectliteValue.method (ReflectliteValue.valueError "reflectlite.Value.IsNil" 0) ReflectliteValue.isNil #[.agg #[.pointer (some ⟨13, 247, none⟩), .pointer (some a), .int .u64 150]]).run prog W = .ok (.bool false) W := by
 rw[rlm];simp only[Sem.run_bind,Dw,Result.andThen];simp[ReflectliteValue.isNil,loadVar,isAgg,underlying,underlying247,z,Result.andThen]
theorem Mu (w:World):(Rtype.elem? 247).run prog w=.ok (some 45) w:=by kernel_rfl
theorem ace (p:Addr)(w:World):(ReflectliteValue.mk 45 p ReflectliteValue.flagAddr).run prog w=.ok (.agg #[.pointer (some ⟨13,45,none⟩),.pointer (some p),.int .u64 386]) w:=by kernel_rfl
theorem PO (a p:Addr)(W:World)(z:W.cell? a=some (.pointer (some p))):
  (ReflectliteValue.method (ReflectliteValue.valueError "reflectlite.Value.Elem" 0) ReflectliteValue.elem #[.agg #[.pointer (some ⟨13, 247, none⟩), .pointer (some a), .int .u64 150]]).run prog W
   = .ok (.agg #[.pointer (some ⟨13,45,none⟩),.pointer (some p),.int .u64 386]) W:=by
 rw[rlm];simp only[Sem.run_bind,Dw,Result.andThen];simp[ReflectliteValue.elem,loadVar,isAgg,underlying,underlying247,z,Result.andThen,Mu,ace]
theorem PQ (a:Addr)(w:World):(ReflectliteValue.parts (.agg #[.pointer (some ⟨13,45,none⟩),.pointer (some a),.int .u64 386])).run prog w=.ok (some (45,a,386)) w:=by kernel_rfl
theorem Uv (a:Addr)(w:World):(ReflectliteValue.parts (.agg #[.pointer (some ⟨13,45,none⟩),.pointer (some a),.int .u64 130])).run prog w=.ok (some (45,a,130)) w:=by kernel_rfl
theorem PU (w:World):(Rtype.directlyAssignable 45 45).run prog w=.ok true w:=by kernel_rfl
theorem Xw (w:World):((ReflectliteType.abiMethod fun t=>(fun a:Nat=>Value.int IntKind.u8 (a:Int)) <$> Rtype.kind t) #[.pointer (some ⟨13,45,none⟩)]).run prog w=.ok (.int .u8 2) w:=by kernel_rfl
theorem Mv (c:Int)(w:World):(ReflectliteValue.unpack (.iface 45 (.int .i64 c))).run prog w
  = .ok (.agg #[.pointer (some ⟨13,45,none⟩),.pointer (some ⟨w.heap.size,0,none⟩),.int .u64 130]) (w.alloc (.cells #[.int .i64 c] 45)):=by kernel_rfl
theorem By (w : World) : (ReflectliteType.relation "AssignableTo" ReflectliteType.assignableTo #[.agg #[.pointer (some ⟨13, 242, none⟩)], .iface 337 (.agg #[.pointer (some ⟨13, 45, none⟩)])]).run prog w = .ok (.bool false) w := by kernel_rfl
theorem Bz (n : Nat) (v : Value) (w : World) : (Go.method (n + 1) 242 v "Unwrap").run prog w = .ok (316, v) w := by kernel_rfl
theorem Mw (v:Value)(w:World):(Instr.typeAssert (.iface 242 v) 191 342 true).run prog w=.ok (.tuple #[.nilIface,.bool false]) w:=run_typeAssert_lacksB underlying342 (by kernel_rfl) (by kernel_rfl) v _ w
theorem Mx (v:Value)(w:World):(Instr.typeAssert (.iface 242 v) 191 345 true).run prog w=.ok (.tuple #[.iface 242 v,.bool true]) w:=by kernel_rfl
theorem aaf (b c:Nat)(y:Int)(H:Value)(W:World)(z:W.cell? ⟨c,0,none⟩=some (.int .i64 y))(D:W.cell? ⟨b,0,none⟩=some H)(F:W.frozen? ⟨b,0,none⟩=false):
  (ReflectliteValue.set #[.agg #[.pointer (some ⟨13,45,none⟩),.pointer (some ⟨b,0,none⟩),.int .u64 386],.agg #[.pointer (some ⟨13,45,none⟩),.pointer (some ⟨c,0,none⟩),.int .u64 130]]).run prog W
   = .ok (.tuple #[]) (W.setCell ⟨b,0,none⟩ (.int .i64 y)):=by
 rw[rls];simp only[Sem.run_bind,PQ,Uv,Result.andThen];simp[ReflectliteValue.flagAddr,loadVar,isAgg,underlying,underlying45,z,Result.andThen,PU,storeVar,Value.cells,storeCells,Addr.add];rw[run_store prog W ⟨b,0,none⟩ _ _ (by rfl)];simp[D,F]
theorem Xx (b:Nat)(x y:Int)(w:World)(X:w.cell? ⟨2,0,none⟩=some (.iface 337 (.agg #[.pointer (some ⟨13,191,none⟩)])))(O:fV w b [.int .i64 0]):Calls prog 154 #[.iface 242 (.agg #[.int .i64 x,.int .i64 y]),.iface 247 (.pointer (some ⟨b,0,none⟩))] w fun e w'=>e=.returned (.bool true)/\fV w' b [.int .i64 y]/\w.grownBy w' (some b):=by
 have e1:=@run_callFunc_extern prog 205 _ (fun F=>ReflectliteValue.unpack (F.getD 0 (.tuple #[]))) func205 (by kernel_rfl) (by kernel_rfl) (by kernel_rfl) (by kernel_rfl);have e2 := @run_callFunc_extern prog 206 _ (ReflectliteValue.methodAny (ReflectliteValue.valueError "reflectlite.Value.Type" 0) (fun t _ _ _ => ReflectliteType.toType t)) func206 (by kernel_rfl) (by kernel_rfl) (by kernel_rfl) (by kernel_rfl);have e3 := @run_callFunc_extern prog 207 _ (ReflectliteValue.method (ReflectliteValue.valueError "reflectlite.Value.IsNil" 0) ReflectliteValue.isNil) func207 (by kernel_rfl) (by kernel_rfl) (by kernel_rfl) (by kernel_rfl);have e4:=@run_callFunc_extern prog 311 _ (ReflectliteType.abiMethod fun t=>do pure (.int .u8 (<-Rtype.kind t))) func311 (by kernel_rfl) (by kernel_rfl) (by kernel_rfl) (by kernel_rfl);have e5:=@run_callFunc_extern prog 324 _ (ReflectliteType.method ReflectliteType.elem) func324 (by kernel_rfl) (by kernel_rfl) (by kernel_rfl) (by kernel_rfl);have e6 := @run_callFunc_extern prog 325 _ (ReflectliteType.relation "Implements" ReflectliteType.implements_) func325 (by kernel_rfl) (by kernel_rfl) (by kernel_rfl) (by kernel_rfl);have e7:=@run_callFunc_extern prog 254 _ ReflectliteType.typeOf func254 (by kernel_rfl) (by kernel_rfl) (by kernel_rfl) (by kernel_rfl);have e8 := @run_callFunc_extern prog 322 _ (ReflectliteType.relation "AssignableTo" ReflectliteType.assignableTo) func322 (by kernel_rfl) (by kernel_rfl) (by kernel_rfl) (by kernel_rfl);have e9 := @run_callFunc_extern prog 255 _ (ReflectliteValue.method (ReflectliteValue.valueError "reflectlite.Value.Elem" 0) ReflectliteValue.elem) func255 (by kernel_rfl) (by kernel_rfl) (by kernel_rfl) (by kernel_rfl);have aa:=@run_callFunc_extern prog 256 _ ReflectliteValue.set func256 (by kernel_rfl) (by kernel_rfl) (by kernel_rfl) (by kernel_rfl);have m1:=vD;have m2:=vE;have m3:=pI;have m4:=oC;have m5:=Bz;have q1:=Kj;have q2:=Mv;have q3:=Us;have q4:=Ut;have q5:=Xw;have q6:=Uu;have q7:=Du;have q8:=Dq;have q9:=By;have ae:=PL;have ad:=Dv;have ab:=Mw;have Y:=Mx;have D:=World.block_lt_of_cell? _ _ X;have D:2<w.heap.size:=D;have ac:=O.sz
 let W1:=w.alloc (.cells #[.pointer (some ⟨b,0,none⟩)] 247)
 let W2:=W1.alloc (.cells #[.pointer (some ⟨13,247,none⟩),.pointer (some ⟨w.heap.size,0,none⟩),.int .u64 150] 298)
 let W3:=W2.alloc (.cells #[.pointer (some ⟨13,247,none⟩),.pointer (some ⟨w.heap.size,0,none⟩),.int .u64 150] 298)
 let W4:=W3.alloc (.cells #[.int .i64 x,.int .i64 y] 242)
 let W5:=W4.alloc (.cells #[.int .i64 y] 45)
 have R:fV W1 w.heap.size [.pointer (some ⟨b,0,none⟩)]:=fV.new w _ _;have K:fV W2 w.heap.size [.pointer (some ⟨b,0,none⟩)]:=R.alloc _;have U:fV W4 w.heap.size [.pointer (some ⟨b,0,none⟩)]:=(K.alloc _).alloc _;have V:fV W5 (w.heap.size+1+1+1+1) [.int .i64 y]:=by have:=fV.new W4 [.int .i64 y] 45;simpa [W4,W3,W2,W1] using this
 have J:fV W5 b [.int .i64 0]:=((((O.alloc _).alloc _).alloc _).alloc _).alloc _;have n8:=PM ⟨w.heap.size,0,none⟩ ⟨b,0,none⟩ W2 (K.cell 0 _ rfl);have Z:=PO ⟨w.heap.size,0,none⟩ ⟨b,0,none⟩ W4 (U.cell 0 _ rfl);have st:=aaf b (w.heap.size+1+1+1+1) y _ W5 (V.cell 0 _ rfl) (J.cell 0 _ rfl) (J.free 0 (by simp));have M:W2.cell? ⟨2,0,none⟩=some (.iface 337 (.agg #[.pointer (some ⟨13,191,none⟩)])):=by
  show((w.alloc _).alloc _).cell? _=_;rw[World.cell?_alloc_lt _ _ ⟨2,0,none⟩ (by simp;omega),World.cell?_alloc_lt _ _ ⟨2,0,none⟩ D];exact X
 have H:Hid (fV (W5.setCell ⟨b,0,none⟩ (.int .i64 y)) b [.int .i64 y]):=J.set 0 (by simp) _;have I:Hid (w.grownBy (W5.setCell ⟨b,0,none⟩ (.int .i64 y)) (some b)):=by
  have z:Bw w W5:=((((bR.alloc lr _).alloc (by simp) _).alloc (by simp;omega) _).alloc (by simp;omega) _).alloc (by simp;omega) _;have g5:w.grownBy W5 (some b):=⟨z.os,z.tape,z.output,z.size,fun i hi _=>z.block i hi⟩
  exact fX g5 (.inl rfl) _
 simp only[W5,W4,W3,W2,W1] at n8 Z st M H I;clear R K U V J O;clear W5 W4 W3 W2 W1;go_in;go_wp2;refine wp_loop_rounds 2 ?_;rw[rounds_succ];go_wp2;rw[rounds_succ];go_wp2;go_ret;exact⟨rfl,H,I⟩
end
section
open Go.RowKit
theorem fV.grown {wr:World}(h:fV wr c vs)(F:wr.grownBy w' (some b))(z:c≠b):fV w' c vs:=by
 have D:w'.heap[c]?=wr.heap[c]?:=F.block c h.sz (by intro e;injection e with e;exact z e);refine⟨Nat.lt_of_lt_of_le h.sz F.size,fun j u I=>?_,fun j H=>?_⟩
 ·exact(World.cell?_of_block (a:=⟨c,j,none⟩) D).trans (h.cell j u I)
 ·exact(World.frozen?_of_block (a:=⟨c,j,none⟩) D).trans (h.free j H)
def lF (f:BA)(a c:Int):Value:=.agg #[.string f,.int .i64 a,.int .i64 c]
theorem Kk (x y p:Int)(w:World)(hG:Mt w):Calls prog 98 #[.iface 242 (.agg #[.int .i64 x,.int .i64 y]),.int .i64 p] w fun e w'=>(∃ a:Int,e=.returned (lF ⟨#[]⟩ a y))/\Bw w w':=by
 have V:=fH hG;go_in;go_wp2_with fail
 let W1:=w.alloc (.cells #[.string ⟨#[]⟩,.int .i64 0,.int .i64 0] 132)
 let W2:=W1.alloc (.cells #[.string ⟨#[]⟩,.int .i64 p,.int .i64 3] 132)
 let W3:=W2.alloc (.cells #[.int .i64 0,.int .i64 0] 242)
 have A3:fV W3 w.heap.size [.string ⟨#[]⟩,.int .i64 0,.int .i64 0]:=((fV.new w _ _).alloc _).alloc _;have F3:fV W3 (w.heap.size+1) [.string ⟨#[]⟩,.int .i64 p,.int .i64 3]:=by have:=(fV.new W1 [.string ⟨#[]⟩,.int .i64 p,.int .i64 3] 132).alloc (.cells #[.int .i64 0,.int .i64 0] 242);simpa [W1] using this
 have T3:fV W3 (w.heap.size+1+1) [.int .i64 0,.int .i64 0]:=by have:=fV.new W2 [.int .i64 0,.int .i64 0] 242;simpa [W2,W1] using this
 have M:Bw w W3:=((bR.alloc lr _).alloc (by simp) _).alloc (by simp;omega) _;refine(Xv (w.heap.size+1+1) x y W3 (V.below M).2 T3).mono ?_;rintro e z ⟨rfl,t1,D⟩;have X:Hid (fV z w.heap.size [.string ⟨#[]⟩,.int .i64 0,.int .i64 0]):=A3.grown D (by omega);have K:Hid (fV z (w.heap.size+1) [.string ⟨#[]⟩,.int .i64 p,.int .i64 3]):=F3.grown D (by omega);have R:Hid (fV z (w.heap.size+1+1) [.int .i64 x,.int .i64 y]):=t1;have BB:Hid (Bw w z):=M.grown D M.size (fun j H=>by injection H with H;omega);have f1:=K.cell 1 _ rfl;have ae:=K.free 1 (by simp);have t0:=R.cell 0 _ rfl;go_wp2_with fail;have ad:=X.sz;have ab:=R.sz;obtain⟨q,hq⟩:∃ q,wrap64 (p+x)=q:=⟨_,rfl⟩
 let V1:=(z.setCell ⟨w.heap.size+1,1,none⟩ (.int .i64 (wrap64 (p+x)))).alloc (.cells #[.int .i64 0] 45)
 have A1:fV V1 w.heap.size [.string ⟨#[]⟩,.int .i64 0,.int .i64 0]:=(X.far (by omega) _).alloc _;have F1:fV V1 (w.heap.size+1) [.string ⟨#[]⟩,.int .i64 (wrap64 (p+x)),.int .i64 3]:=(K.set 1 (by simp) _).alloc _;have T1:fV V1 z.heap.size [.int .i64 0]:=by have:=fV.new (z.setCell ⟨w.heap.size+1,1,none⟩ (.int .i64 (wrap64 (p+x)))) [.int .i64 0] 45;simpa using this
 have O:Bw w V1:=(fO BB (by omega) _).alloc (by simp;omega) _;refine(Xx z.heap.size x y V1 (V.below O).2 T1).mono ?_;rintro e J ⟨rfl,Z,F⟩;have I:Hid (fV J w.heap.size [.string ⟨#[]⟩,.int .i64 0,.int .i64 0]):=A1.grown F (by omega);have U:Hid (fV J (w.heap.size+1) [.string ⟨#[]⟩,.int .i64 q,.int .i64 3]):=by rw[<-hq];exact F1.grown F (by omega)
 have LT:Hid (fV J z.heap.size [.int .i64 y]):=Z;have CB:Hid (Bw w J):=O.grown F O.size (fun j H=>by injection H with H;omega);obtain⟨f0,f1,f2⟩:=qj U.cell;have af:=U.free 2 (by simp);have t0:=LT.cell 0 _ rfl;obtain⟨a0,a1,a2⟩:=qj I.cell;have aa:=I.free 0 (by simp);have Y:=I.free 1 (by simp);have ac:=I.free 2 (by simp);go_wp2_with fail;refine bodyPost_ret (v:=.agg #[.string ⟨#[]⟩,.int .i64 q,.int .i64 y]) (by simp[results,results98,go_sem,a0,a1,a2]) rfl ⟨⟨q,rfl⟩,?_⟩;exact fO (fO (fO (fO CB (Nat.le_succ _) _) lr _) lr _) lr _
theorem Je {j:Nat}{nv:Value}(h:w.ownsRow base e size nv n xs)(F:b<base)(v:Value):(w.setCell ⟨b,j,none⟩ v).ownsRow base e size nv n xs:=by
 have D:w.grownBy (w.setCell ⟨b,j,none⟩ v) (some b):=fX (World.grownBy.refl w (some b)) (.inl rfl) _;refine h.kept D ?_;cases hq:nv.ownBlock with
 | none=>exact .inl rfl
 | some q=>right;intro z;injection z with z;have:=(h.lt q hq).1;omega
end
section
open Go.ChangeShapes Go.WideShapes Go.Deep Go.RowKit
section
variable {H : Type} {enc : TypeId × Value -> H} {P : Program} {w : World} {base : Nat} {spare : Nat -> Bool} {held : Bool}
theorem yK {t:TypeId}{cs:LV}{x:DataW H×List MemPlace}(ht:P.underlying t=some (.slice e))(he:P.underlying e=some (.struct fs))
  (M:oneCellFields P fs=true)(hC:P.cellsOf e=fs.size)(h:DataW.trod enc P w base spare held fuel t cs=some x):
  (cs=[.slice none 0 0]/\x=(.nil,[])) \/
  ∃ (a:Addr) (len cap m:Nat) (D:Nat->DataW H) (O:Nat->List MemPlace),cs=[.slice (some a) len cap]/\base<=a.block/\len<=cap/\cap<=maxLen/\m=(if spare a.block then cap else len) /\
   x=(.slice ((List.range len).map D) ((List.range (m-len)).map fun j=>D (len+j)),MemPlace.row a (m*fs.size)++(List.range m).flatMap O) /\
   ∀ i,i<m->∃ (F:List (DataW H×List MemPlace)) (n:Nat),D i=.agg (F.map (·.1))/\O i=F.flatMap (·.2)/\F.length=fs.size /\
    ∀ (j:Nat)(f:Field),fs[j]?=some f->∃ (v:Value)(y:DataW H×List MemPlace),w.cell? (a.add (i*fs.size+j))=some v/\F[j]?=some y/\DataW.trod enc P w base spare held n f.type [v]=some y:=by
 rcases open_slice ht h with h0 | ⟨a,len,cap,m,n,D,O,ab,hb,hl,hm,R,hx,hi⟩
 ·exact .inl h0
 ·refine .inr ⟨a,len,cap,m,D,O,ab,hb,hl,hm,R,by rw[hC] at hx;exact hx,fun i X=>?_⟩;obtain⟨z,hc,aa⟩:=hi i X;rw[hC] at hc;obtain⟨F,n',ad,hy,ac,V,hf⟩:=DataW.trod_struct he aa;obtain⟨_,ae,U⟩:=World.cells?_some hc;simp only[Prod.mk.injEq] at hy;refine⟨F,n',hy.1,hy.2,V,fun j f hj=>?_⟩;obtain⟨ho,hk⟩:=hone_of M j f hj;have Y:j<fs.size:=(Array.getElem?_eq_some_iff.1 hj).1;have I:=U j Y;have hv:z[j]?=some (z[j]'(by omega)):=gG (by omega);have Z:=hf j f hj;rw[ho,hk] at Z;have J:(z.drop j).take 1=[z[j]'(by omega)]:=by
   rw[List.drop_eq_getElem_cons (by omega)];rfl
  rw[J] at Z;have K:F[j]?=some (F[j]'(by omega)):=gG (by omega);refine⟨_,_,?_,K,Z.trans K⟩;rw[<-Go.Deep.add_add,I,hv]
end
theorem CJ {α:Type}{Q:Nat->α->Prop}:∀ n:Nat,(∀ i,i<n->∃ x,Q i x)->∃ l:List α,l.length=n/\∀ (i:Nat)(x:α),l[i]?=some x->Q i x
 | 0,_=>⟨[],rfl,fun i x h=>by simp at h⟩
 | n+1,h=>by
  obtain⟨l,D,H⟩:=CJ n (fun i F=>h i (by omega));obtain⟨x,I⟩:=h n (by omega);refine⟨l++[x],by simp[D],fun i y z=>?_⟩;by_cases F:i<l.length
  ·rw[List.getElem?_append_left F] at z;exact H i y z
  ·rw[List.getElem?_append_right (by omega)] at z;have:i=n:=by have:=(gS z).1;simp at this;omega
   subst this;rw[D,Nat.sub_self] at z;simp at z;subst z;exact I
theorem Gu {α:Type}{f:α->LV}(F:∀ x,(f x).length=sz)(z:0<sz)(l:List α)(j:Nat)(u:Value)(h:(l.flatMap f)[j]?=some u):∃ (i k:Nat)(x:α),l[i]?=some x/\k<sz/\j=i*sz+k/\(f x)[k]?=some u:=by
 have I:j<l.length*sz:=by rw[<-mw F];exact(gS h).1
 have H:j / sz<l.length:=Nat.div_lt_of_lt_mul (by rw[Nat.mul_comm];exact I);have D:j % sz<sz:=Nat.mod_lt _ z;have e:j=j / sz*sz+j % sz:=by rw[Nat.mul_comm];exact(Nat.div_add_mod j sz).symm
 refine⟨j / sz,j % sz,l[j / sz],gG H,D,e,?_⟩;rw[<-pO F l (j / sz) (j % sz) _ (gG H) D,<-e,h]
theorem vj {a:Addr}(h:w.cell? (a.add n)=some v):a.add n=⟨a.block,a.off+n,none⟩:=by
 unfold Addr.add at *;split at h
 ·rename_i z;subst z;simp only[if_pos];cases a with | mk b o s=>
   unfold World.cell? at h;split at h
   ·split at h
    ·cases h
    ·rename_i D;simp at D;simp[D]
   ·cases h
 ·rename_i z;rw[if_neg z]
section
variable {H : Type} {enc : TypeId × Value -> H} {w : World} {spare : Nat -> Bool}
theorem vk (hT:prog.underlying T=some (.slice E))(hE:prog.underlying E=some (.struct fs))(X:oneCellFields prog fs=true)(hC:prog.cellsOf E=fs.size)(F:0<fs.size)
  {α:Type}(f:α->LV)(Pr:α->Prop)(Y:∀ x,(f x).length=fs.size)
  (ab:∀ (n:Nat)(vs:Nat->Value),(∀ (j:Nat)(fd:Field),fs[j]?=some fd->∃ y,DataW.trod enc prog w 0 spare true n fd.type [vs j]=some y)->∃ x:α,Pr x/\∀ j,j<fs.size->(f x)[j]?=some (vs j))
  {d:DataW H×List MemPlace}(h:DataW.trod enc prog w 0 spare true fuel T [v]=some d):
  ∃ (A:OA) (c:Nat) (l:List α),v=.slice A l.length c/\Rd w fs.size A l.length (l.flatMap f)/\(∀ x∈l,Pr x)/\l.length<=9223372036854775807/\l.length<=c:=by
 rcases yK hT hE X hC h with⟨z,_⟩ | ⟨a,len,cap,m,D,Pl,z,_,hl,hm,aa,_,hi⟩
 ·injection z with z _;exact⟨none,0,[],z,Rd.nil _ _ _,fun x M=>by simp at M,z0,z0⟩
 ·injection z with z _;have ad:len<=m:=by rw[aa];split<;>omega
  have key:∀ i,i<len->∃ x:α,Pr x/\∀ j u,(f x)[j]?=some u->w.cell? ⟨a.block,a.off+(i*fs.size+j),none⟩=some u:=by
   intro i V;obtain⟨ys,n,_,_,ae,hj⟩:=hi i (by omega);have hv:∀ j,∃ v,(∀ fd,fs[j]?=some fd->w.cell? (a.add (i*fs.size+j))=some v/\∃ y,DataW.trod enc prog w 0 spare true n fd.type [v]=some y):=by
    intro j;cases hfd:fs[j]? with
    | none=>exact⟨default,fun fd h=>by cases h⟩
    | some fd=>
     obtain⟨v,y,J,_,h3⟩:=hj j fd hfd;exact⟨v,fun af h=>by injection h with h;subst h;exact⟨J,y,h3⟩⟩
   have I:∃ vs:Nat->Value,∀ j fd,fs[j]?=some fd->w.cell? (a.add (i*fs.size+j))=some (vs j)/\∃ y,DataW.trod enc prog w 0 spare true n fd.type [vs j]=some y:=
    ⟨fun j=>Classical.choose (hv j),fun j fd h=>Classical.choose_spec (hv j) fd h⟩
   obtain⟨vs,I⟩:=I;obtain⟨x,M,hc⟩:=ab n vs (fun j fd h=>(I j fd h).2);refine⟨x,M,fun j u Z=>?_⟩;have U:j<fs.size:=by rw[<-Y x];exact(gS Z).1
   have J:=hc j U;rw[Z] at J;have J:=Option.some.inj J;subst J;have O:=(I j _ (Array.getElem?_eq_getElem U)).1;rw[vj O] at O;exact O
  obtain⟨l,K,R⟩:=CJ len key;refine⟨some a,cap,l,by rw[K];exact z,⟨mw Y l,fun hn=>?_⟩,fun x M=>?_,by rw[K];unfold maxLen at hm;omega,by rw[K];exact hl⟩
  ·obtain⟨x0,ah⟩:∃ x,l[0]?=some x:=⟨_,gG hn⟩
   obtain⟨u0,ag⟩:∃ u,(f x0)[0]?=some u:=⟨_,gG (by rw[Y];exact F)⟩
   refine⟨a.block,a.off,?_,fun j u Z=>?_⟩
   ·obtain⟨ys,n,_,_,_,hj⟩:=hi 0 (by omega);obtain⟨v0,y0,J,_,_⟩:=hj 0 _ (Array.getElem?_eq_getElem F);have O:=vj J;simp only[Nat.zero_mul,Nat.zero_add,Addr.add,if_pos,Nat.add_zero] at O;rw[<-O]
   ·obtain⟨i,k,x,M,hk,rfl,ac⟩:=Gu Y F l j u Z;exact(R i x M).2 k u ac
  ·obtain⟨i,V,rfl⟩:=List.getElem_of_mem M;exact(R i _ (gG V)).1
theorem JN (hT:prog.underlying T=some (.slice E))(hE:prog.underlying E=some .string)(hC:prog.cellsOf E=1)
  {d:DataW H×List MemPlace}(h:DataW.trod enc prog w 0 spare true fuel T [v]=some d):
  ∃ (A:OA) (c:Nat) (l:List BA),v=.slice A l.length c/\Rd w 1 A l.length (strCells l)/\(∀ x∈l,x.size<=9223372036854775807)/\l.length<=9223372036854775807/\l.length<=c:=by
 rcases open_slice hT h with⟨z,_⟩ | ⟨a,len,cap,m,n,D,Pl,z,_,hl,hm,O,_,hi⟩
 ·injection z with z _;exact⟨none,0,[],z,Rd.nil _ _ _,fun x M=>by simp at M,z0,z0⟩
 ·injection z with z _;have Z:len<=m:=by rw[O];split<;>omega
  have key:∀ i,i<len->∃ x:BA,x.size<=9223372036854775807/\w.cell? ⟨a.block,a.off+i,none⟩=some (.string x)/\a.add i=⟨a.block,a.off+i,none⟩:=by
   intro i K;obtain⟨aa,hc,X⟩:=hi i (by omega);rw[hC] at hc;obtain⟨_,ab,U⟩:=World.cells?_some hc;obtain⟨s,hs,_,V⟩:=DataW.trod_string hE X;have R:=U 0 (by omega);rw[hs,Nat.mul_one] at R;have Y:w.cell? (a.add i)=some (.string s):=by
    have e:(a.add i).add 0=a.add i:=by simp[Addr.add]
    rw[e] at R;simpa using R
   have J:=vj Y;refine⟨s,by unfold maxLen at V;omega,by rw[<-J];exact Y,J⟩
  obtain⟨l,I,F⟩:=CJ len key;refine⟨some a,cap,l,by rw[I];exact z,⟨by simp[strCells],fun hn=>?_⟩,fun x M=>?_,by rw[I];unfold maxLen at hm;omega,by rw[I];exact hl⟩
  ·refine⟨a.block,a.off,?_,fun j u hu=>?_⟩
   ·have J:=(F 0 _ (gG hn)).2.2;simp only[Addr.add,if_pos,Nat.add_zero] at J;rw[<-J]
   ·simp only[strCells,List.getElem?_map,Option.map_eq_some_iff] at hu;obtain⟨x,M,rfl⟩:=hu;exact(F j x M).2.1
  ·obtain⟨i,K,rfl⟩:=List.getElem_of_mem M;exact(F i _ (gG K)).1
end
end
section
open Go.ChangeShapes Go.WideShapes Go.Deep Go.RowKit
section
variable {H : Type} {enc : TypeId × Value -> H} {w : World} {spare : Nat -> Bool}
def ZS (x:fP):Prop:=x.nm.size<=9223372036854775807/\x.ver.size<=9223372036854775807/\(Lit.int .i64 x.op).wf=true
def ZT (x:fW):Prop:=x.path.size<=9223372036854775807/\x.owner.size<=9223372036854775807/\x.group.size<=9223372036854775807/\x.link.size<=9223372036854775807/\x.sum.size<=9223372036854775807/\(Lit.int .i64 x.kind).wf=true/\(Lit.int .i64 x.mode).wf=true
def OW (x:gE):Prop:=x.body.size<=9223372036854775807/\(Lit.int .i64 x.phase).wf=true
theorem ma {y:DataW H×List MemPlace}(h:DataW.trod enc prog w 0 spare true n 9 [v]=some y):∃ s:BA,v=.string s/\s.size<=9223372036854775807:=by
 obtain⟨s,z,_,D⟩:=DataW.trod_string underlying9 h;injection z with z _;exact⟨s,z,by unfold maxLen at D;omega⟩
theorem yL {y:DataW H×List MemPlace}(h:DataW.trod enc prog w 0 spare true n 3 [v]=some y):∃ z:Int,v=.int .i64 z/\(Lit.int .i64 z).wf=true:=by
 obtain⟨z,D,_,F⟩:=DataW.trod_int underlying3 h;injection D with D _;exact⟨z,D,F⟩
theorem WP {y:DataW H×List MemPlace}(h:DataW.trod enc prog w 0 spare true n 4 [v]=some y):∃ z:Bool,v=.bool z:=by
 obtain⟨z,D,_⟩:=DataW.trod_bool underlying4 h;injection D with D _;exact⟨z,D⟩
theorem Sd {d:DataW H×List MemPlace}(h:DataW.trod enc prog w 0 spare true fuel 34 [v]=some d):
  ∃ (A:OA) (c:Nat) (l:List fP),v=.slice A l.length c/\Rd w 3 A l.length (l.flatMap fP.cells)/\(∀ x∈l,ZS x)/\l.length<=9223372036854775807/\l.length<=c:=by
 refine vk underlying34 underlying78 (by kernel_rfl) (by kernel_rfl) (by decide) fP.cells ZS (fun _=>rfl) (fun n vs z=>?_) h;obtain⟨y0,I⟩:=z 0 _ rfl;obtain⟨y1,O⟩:=z 1 _ rfl;obtain⟨y2,F⟩:=z 2 _ rfl;obtain⟨R,D,Y⟩:=ma I;obtain⟨X,Z,M⟩:=yL O;obtain⟨K,U,J⟩:=ma F;refine⟨⟨R,X,K⟩,⟨Y,J,M⟩,fun j hj=>?_⟩;have V:j<3:=hj;rcases(by omega:j=0\/j=1\/j=2) with rfl | rfl | rfl
 ·rw[D];rfl
 ·rw[Z];rfl
 ·rw[U];rfl
theorem Se {d:DataW H×List MemPlace}(h:DataW.trod enc prog w 0 spare true fuel 35 [v]=some d):
  ∃ (A:OA) (c:Nat) (l:List fW),v=.slice A l.length c/\Rd w 8 A l.length (l.flatMap fW.cells)/\(∀ x∈l,ZT x)/\l.length<=9223372036854775807/\l.length<=c:=by
 refine vk underlying35 underlying57 (by kernel_rfl) (by kernel_rfl) (by decide) fW.cells ZT (fun _=>rfl) (fun n vs z=>?_) h;obtain⟨y0,R⟩:=z 0 _ rfl;obtain⟨y1,h1⟩:=z 1 _ rfl;obtain⟨y2,K⟩:=z 2 _ rfl;obtain⟨y3,h3⟩:=z 3 _ rfl;obtain⟨y4,h4⟩:=z 4 _ rfl;obtain⟨y5,h5⟩:=z 5 _ rfl;obtain⟨y6,h6⟩:=z 6 _ rfl;obtain⟨y7,h7⟩:=z 7 _ rfl;obtain⟨s0,D,z0⟩:=ma R;obtain⟨s1,e1,z1⟩:=yL h1;obtain⟨Y,e2,V⟩:=yL K;obtain⟨s3,e3,z3⟩:=ma h3;obtain⟨J,e4,X⟩:=ma h4;obtain⟨s5,I,O⟩:=ma h5;obtain⟨F,Z,z6⟩:=ma h6;obtain⟨U,M⟩:=WP h7;refine⟨⟨s0,s1,Y,s3,J,s5,F,U⟩,⟨z0,z3,X,O,z6,z1,V⟩,fun j hj=>?_⟩;have aa:j<8:=hj;rcases(by omega:j=0\/j=1\/j=2\/j=3\/j=4\/j=5\/j=6\/j=7) with rfl | rfl | rfl | rfl | rfl | rfl | rfl | rfl
 ·rw[D];rfl
 ·rw[e1];rfl
 ·rw[e2];rfl
 ·rw[e3];rfl
 ·rw[e4];rfl
 ·rw[I];rfl
 ·rw[Z];rfl
 ·rw[M];rfl
theorem LB {d:DataW H×List MemPlace}(h:DataW.trod enc prog w 0 spare true fuel 36 [v]=some d):
  ∃ (A:OA) (c:Nat) (l:List gE),v=.slice A l.length c/\Rd w 2 A l.length (l.flatMap gE.cells)/\(∀ x∈l,OW x)/\l.length<=9223372036854775807/\l.length<=c:=by
 refine vk underlying36 underlying59 (by kernel_rfl) (by kernel_rfl) (by decide) gE.cells OW (fun _=>rfl) (fun n Y z=>?_) h;obtain⟨X,R⟩:=z 0 _ rfl;obtain⟨Z,M⟩:=z 1 _ rfl;obtain⟨O,D,V⟩:=yL R;obtain⟨U,F,K⟩:=ma M;refine⟨⟨O,U⟩,⟨K,V⟩,fun j J=>?_⟩;have I:j<2:=J;rcases(by omega:j=0\/j=1) with rfl | rfl
 ·rw[D];rfl
 ·rw[F];rfl
theorem abG (n:Nat)(vs:Nat->Value)
  (z:∀ (j:Nat)(t:TypeId),[(9:TypeId),9,9,9,33,33,34,35,36][j]?=some t->∃ y,DataW.trod enc prog w 0 spare true n t [vs j]=some y):
  ∃ p:fZ,(p.ok w/\p.fits/\p.files.length<=p.fc/\p.needs.length<=p.nc/\p.bars.length<=p.bc/\p.gives.length<=p.gc/\p.scripts.length<=p.sc)/\∀ j,j<9->p.cells[j]?=some (vs j):=by
 obtain⟨y0,U⟩:=z 0 _ rfl;obtain⟨y1,h1⟩:=z 1 _ rfl;obtain⟨y2,I⟩:=z 2 _ rfl;obtain⟨y3,h3⟩:=z 3 _ rfl;obtain⟨y4,h4⟩:=z 4 _ rfl;obtain⟨y5,h5⟩:=z 5 _ rfl;obtain⟨y6,h6⟩:=z 6 _ rfl;obtain⟨y7,h7⟩:=z 7 _ rfl;obtain⟨y8,h8⟩:=z 8 _ rfl;obtain⟨s0,F,z0⟩:=ma U;obtain⟨s1,e1,z1⟩:=ma h1;obtain⟨s2,e2,z2⟩:=ma I;obtain⟨s3,e3,z3⟩:=ma h3;obtain⟨a4,c4,l4,e4,r4,K,n4,k4⟩:=JN underlying33 underlying9 (by kernel_rfl) h4;obtain⟨a5,c5,Y,H,r5,x5,J,k5⟩:=JN underlying33 underlying9 (by kernel_rfl) h5;obtain⟨a6,c6,l6,e6,r6,x6,n6,k6⟩:=Sd h6;obtain⟨M,c7,l7,R,r7,Z,n7,X⟩:=Se h7;obtain⟨D,O,l8,e8,r8,x8,n8,V⟩:=LB h8;refine⟨⟨s0,s1,s2,s3,a4,c4,l4,a5,c5,Y,a6,c6,l6,M,c7,l7,D,O,l8⟩,⟨⟨r4,r5,r6,r7,r8⟩,⟨z0,z1,z2,z3,n4,J,n6,n7,n8,K,x5,x6,Z,x8⟩,X,k4,k5,k6,V⟩,fun j hj=>?_⟩;rcases(by omega:j=0\/j=1\/j=2\/j=3\/j=4\/j=5\/j=6\/j=7\/j=8) with rfl | rfl | rfl | rfl | rfl | rfl | rfl | rfl | rfl
 ·rw[F];rfl
 ·rw[e1];rfl
 ·rw[e2];rfl
 ·rw[e3];rfl
 ·rw[e4];rfl
 ·rw[H];rfl
 ·rw[e6];rfl
 ·rw[R];rfl
 ·rw[e8];rfl
theorem abH {d:DataW H×List MemPlace}(h:DataW.trod enc prog w 0 spare true fuel 22 [v]=some d):
  ∃ (A:OA) (c:Nat) (l:List fZ),v=.slice A l.length c/\vl w A l/\(∀ p∈l,p.fits)/\l.length<=9223372036854775807/\(∀ p∈l,p.files.length<=p.fc/\p.needs.length<=p.nc/\p.bars.length<=p.bc/\p.gives.length<=p.gc/\p.scripts.length<=p.sc)/\l.length<=c:=by
 obtain⟨A,c,l,M,J,F,K,O⟩:=vk underlying22 underlying38 (by kernel_rfl) (by kernel_rfl) (by decide) fZ.cells (fun p=>p.ok w/\p.fits/\p.files.length<=p.fc/\p.needs.length<=p.nc/\p.bars.length<=p.bc/\p.gives.length<=p.gc/\p.scripts.length<=p.sc) (fun _=>rfl) (fun n I z=>by
  refine abG (enc:=enc) (spare:=spare) n I (fun j t ht=>?_);have R:j<9:=by simpa using(gS ht).1
  rcases(by omega:j=0\/j=1\/j=2\/j=3\/j=4\/j=5\/j=6\/j=7\/j=8) with rfl | rfl | rfl | rfl | rfl | rfl | rfl | rfl | rfl
  ·have ht:=Option.some.inj ht;subst ht;exact z 0 _ rfl
  ·have ht:=Option.some.inj ht;subst ht;exact z 1 _ rfl
  ·have ht:=Option.some.inj ht;subst ht;exact z 2 _ rfl
  ·have ht:=Option.some.inj ht;subst ht;exact z 3 _ rfl
  ·have ht:=Option.some.inj ht;subst ht;exact z 4 _ rfl
  ·have ht:=Option.some.inj ht;subst ht;exact z 5 _ rfl
  ·have ht:=Option.some.inj ht;subst ht;exact z 6 _ rfl
  ·have ht:=Option.some.inj ht;subst ht;exact z 7 _ rfl
  ·have ht:=Option.some.inj ht;subst ht;exact z 8 _ rfl) h
 exact⟨A,c,l,M,⟨J,fun p D=>(F p D).1⟩,fun p D=>(F p D).2.1,K,fun p D=>(F p D).2.2,O⟩
end
end
end Go.Proofs.YtkmjcombhjombaaGreatDoor
