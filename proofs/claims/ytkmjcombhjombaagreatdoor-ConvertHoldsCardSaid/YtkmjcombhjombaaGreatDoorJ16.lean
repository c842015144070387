/- A part of the proof. -/
import Derived.Test.YtkmjcombhjombaaGreatDoorJ08
import Derived.Test.YtkmjcombhjombaaGreatDoorJ10
set_option maxRecDepth 100000
set_option maxHeartbeats 20000000
set_option linter.unusedVariables false
set_option linter.unusedSimpArgs false
namespace Go.Proofs.YtkmjcombhjombaaGreatDoor
variable{s:BA}{fmt:Int}{l r t u v x y:LU}{vs:LV}{a b base cb k:Nat}{row:Option Nat}{p:Prop}{c d:UInt8}{w w' wr:World}
open Go.Proofs.Tryz
section
open Go.RowKit
structure jb where
 ep:Nat
 na:OA
 nc:Nat
 nums:List Nat
 lt:BA
 pre:BA
 pnum:Nat
 rev:Nat
def jb.plain (c:jb):gQ:=⟨c.ep,c.nums,bl c.lt,bl c.pre,c.pnum,c.rev⟩
def iI (l:List Nat):LV:=l.map fun (n:Nat)=>Value.int .i64 (n:Int)
def jb.cells (c:jb):LV:=[.int .i64 c.ep,.slice c.na c.nums.length c.nc,.string c.lt,.string c.pre,.int .i64 c.pnum,.int .i64 c.rev]
def jb.val (c:jb):Value:=.agg #[.int .i64 c.ep,.slice c.na c.nums.length c.nc,.string c.lt,.string c.pre,.int .i64 c.pnum,.int .i64 c.rev]
def jb.ok (c:jb)(w:World):Prop:=Rd w 1 c.na c.nums.length (iI c.nums)
structure jb.few (c:jb):Prop where
 ep:c.ep<=4611686018427387903
 each:∀ n∈c.nums,n<=4611686018427387903
 len:c.nums.length<=1000
 lt:c.lt.size<=1000
 pre:c.pre.size<=1000
 pnum:c.pnum<=4611686018427387903
 rev:c.rev<=4611686018427387903
theorem Rd.num {A:OA}{l:List Nat}(h:Rd w 1 A l.length (iI l))(i:Nat)(x:Nat)(z:l[i]?=some x):
  ∃ b off,A=some ⟨b,off,none⟩/\w.cell? ⟨b,off+i,none⟩=some (.int .i64 x):=by
 have F:i<l.length:=(gS z).1;obtain⟨b,off,e,D⟩:=h.2 (by omega);exact⟨b,off,e,D i _ (by simp[iI,z])⟩
theorem Fa:∀ (L:List Nat),(∀ n∈L,n<=4611686018427387903)->(iy 46 (L.map fU)).length<=20*L.length
 | [],_=>by simp[iy]
 | [n],h=>by
  have:=ug 18 n (by have:=h n (by simp);omega);simp[iy];omega
 | n::m::L,h=>by
  have F:=ug 18 n (by have:=h n (by simp);omega);have z:=Fa (m::L) (fun x D=>h x (List.mem_cons_of_mem _ D));simp only[List.map_cons,iy,List.length_append,List.length_cons] at z |-;omega
theorem aaB  [Decidable p](h:false=!decide p):p:=by
 cases hd:decide p with
 | true=>exact dO hd
 | false=>rw[hd] at h;cases h
theorem Yr  [Decidable p](h:true=!decide p):¬ p:=by
 cases hd:decide p with
 | false=>exact of_decide_eq_false hd
 | true=>rw[hd] at h;cases h
theorem szA (a b:BA):(a++b).size=a.size+b.size:=ByteArray.size_append
structure KO (w wr:World) (c:jb) (l:LU):Prop where
 bel:Bw w wr
 box:fV wr w.heap.size c.cells
 bld:Bld wr (w.heap.size+1) (w.heap.size+1) l
 sz:w.heap.size+1<wr.heap.size
theorem Bld.below {B:Nat}(h:Bld w B b l)(F:Bw w w'):Bld w' B b l:=by
 have key:∀ p,Lib.BuilderAt 278 5 B b p (Lib.byteCells l) w->Lib.BuilderAt 278 5 B b p (Lib.byteCells l) w':=by
  rintro p ⟨I,v,D,J,H⟩;have z:b<w.heap.size:=(Array.getElem?_eq_some_iff.1 D).1;exact⟨I,v,(F.block b z).trans D,ge J F,H⟩
 rcases h with h | h
 ·exact .inl (key _ h)
 ·exact .inr (key _ h)
theorem KO.step {c:jb}(h:KO w wr c l)(z:Bw wr w'):KO w w' c l:=
 ⟨fM h.bel z,h.box.below z,h.bld.below z,Nat.lt_of_lt_of_le h.sz z.size⟩
theorem KO.write {c:jb}{l':LU}(h:KO w wr c l)(z:Below (w.heap.size+1) wr w')(D:Bld w' (w.heap.size+1) (w.heap.size+1) l'):KO w w' c l':=
 ⟨h.bel.trans (z.mono (Nat.le_succ _)),h.box.belowN z (Nat.lt_succ_self _),D,Nat.lt_of_lt_of_le h.sz z.size⟩
theorem KO.start (w:World)(c:jb):KO w ((w.alloc (.cells #[.int .i64 c.ep,.slice c.na c.nums.length c.nc,.string c.lt,.string c.pre,.int .i64 c.pnum,.int .i64 c.rev] 159)).alloc (.cells #[.pointer none,.slice none 0 0] 278)) c []:=by
 refine⟨(bR.alloc lr _).alloc (by simp) _,(fV.new w c.cells _).alloc _,.inl ⟨lr,.slice none 0 0,?_,World.ownsRow_nil _ _ _ _,by simp[Value.ownBlock]⟩,by simp⟩;have:=heap_alloc_new (w.alloc (.cells #[.int .i64 c.ep,.slice c.na c.nums.length c.nc,.string c.lt,.string c.pre,.int .i64 c.pnum,.int .i64 c.rev] 159)) (.cells #[.pointer none,.slice none 0 0] 278);simpa using this
theorem KO.put {c:jb}(h:KO w wr c l)(s:BA)(D:l.length+s.size<=1000000):Calls prog 188 #[.pointer (some ⟨w.heap.size+1,0,none⟩),.string s] wr fun e w'=>e=.returned (.tuple #[.int .i64 s.size,.nilIface])/\KO w w' c (l++bl s)/\Below (w.heap.size+1) wr w':=
 (E9 (w.heap.size+1) (w.heap.size+1) l s wr h.bld D (Nat.le_of_lt h.sz)).mono fun _ _ ⟨F,H,z⟩=>⟨F,h.write z H,z⟩
theorem Jc (fmt:Int)(c:jb)(w:World)(hG:QI w)(hc:c.ok w)(hf:c.few):Calls prog 135 #[.int .i64 fmt,c.val] w fun e w'=>e=.returned (.string ⟨(gH fmt c.plain).toArray⟩)/\Bw w w':=by
 have HG:=fH hG;have HC:=fH hc;have F:=fH hf;clear hG hc hf;have T0:=fH (KO.start w c);obtain⟨W0,ai⟩:∃ W0,(w.alloc (.cells #[.int .i64 c.ep,.slice c.na c.nums.length c.nc,.string c.lt,.string c.pre,.int .i64 c.pnum,.int .i64 c.rev] 159)).alloc (.cells #[.pointer none,.slice none 0 0] 278)=W0:=⟨_,rfl⟩
 have U:=fH ai;clear ai;have lp:=(xV F.ep);have lq:=(xV F.pnum);have aE:=(xV F.rev)
 unfold jb.val;go_in;go_wp2_with fail;refine mb (EE fmt _) ?_;rintro w' rfl;go_upto_region 3 with(fail)
 rw[U.out];have T1:Hid (KO w W0 c []):=by show KO _ _ _ _;rw[<-U.out];exact T0.out
 clear T0 U;go_cut [20] (fun s O=>∃ Y:Bool,s=.bool Y/\Hid (Y=!decide (fmt=3\/c.ep=0))/\O=W0)
 case first=>
  have k0:=T1.box.cell 0 _ rfl;by_cases R:fmt=3
  ·have q:(fmt != 3)=false:=by simp[R]
   have E:Hid (false=!decide (fmt=3\/c.ep=0)):=by show _=_;simp[R]
   clear R;go_wp2;go_meet;exact⟨false,rfl,E,rfl⟩
  ·have q:(fmt != 3)=true:=by simp[R]
   by_cases Z:c.ep=0
   ·have q0:((c.ep:Int) != 0)=false:=by simp[Z]
    have E:Hid (false=!decide (fmt=3\/c.ep=0)):=by show _=_;simp[Z]
    clear R Z;go_wp2;go_meet;exact⟨false,rfl,E,rfl⟩
   ·have q0:((c.ep:Int) != 0)=true:=by simp[Z]
    have E:Hid (true=!decide (fmt=3\/c.ep=0)):=by show _=_;simp[Z,R]
    clear R Z;go_wp2;go_meet;exact⟨true,rfl,E,rfl⟩
 case rest=>
 obtain⟨Y,rfl,V,rfl⟩:=hcut;go_upto_if 20 with(fail)
 go_cut [20] (fun s O=>s=.bool Y/\Hid (KO w O c (rC fmt c.plain)))
 case first=>
  cases Y
  ·have E:Hid (rC fmt c.plain=[]):=by
    show _=_;unfold rC;rw[if_pos (show fmt=3\/c.plain.ep=0 from aaB V.out)]
   go_wp2;go_meet;exact⟨rfl,by rw[E.out];exact T1⟩
  ·have E:Hid (rC fmt c.plain=bl (sf c.ep++⟨#[58]⟩)):=by
    show _=_;unfold rC;rw[if_neg (show ¬ (fmt=3\/c.plain.ep=0) from Yr V.out),iO,sU];rfl
   have k0:=T1.box.cell 0 _ rfl;go_wp2_with fail;refine mb (uT c.ep _ (HG.below T1.bel) F.ep) ?_;rintro w1 J;have T2:=fH (T1.step J);clear J k0;have az:(sf c.ep++⟨#[58]⟩:BA).size<=20:=by rw[szA];have:(⟨#[58]⟩:BA).size=1:=rfl;omega
   go_wp2_with fail;refine(T2.put _ (by rw[List.length_nil];omega)).mono ?_;rintro e w2 ⟨rfl,ad,ao⟩;have M:=fH ad;clear ad ao;go_wp2;go_meet;exact⟨rfl,by rw[E.out];simpa using M⟩
 case rest=>
 obtain⟨rfl,T2⟩:=hcut;clear T1 V;have k1:=T2.box.cell 1 _ rfl;have ax:=F.len;have aF:(rC fmt c.plain).length<=20:=by
  unfold rC;split
  ·simp
  ·rw[List.length_append];have:=fI (sf c.plain.ep);rw[sU] at this;have h2:(sf c.plain.ep).size<=19:=lp;simp;omega
 go_wp2;go_loopw [29] (fun i wr=>∃ k:Nat,k<=c.nums.length/\i=.int .i64 k/\Hid (KO w wr c (rC fmt c.plain++iy 46 ((c.nums.take k).map fU)))) (fun i _=>c.nums.length-(intOf i).toNat)
 case atStart=>exact⟨0,z0,rfl,fH (by simpa [iy] using T2.out)⟩
 case round=>
  clear T2 k1;obtain⟨k,hk,rfl,M⟩:=hrel;have al:=Fa (c.nums.take k) (fun n hn=>F.each n (List.mem_of_mem_take hn));rw[List.length_take] at al;by_cases ae:k<c.nums.length
  ·obtain⟨x,hx⟩:∃ x,c.nums[k]?=some x:=⟨_,gG ae⟩
   have aj:=F.each x (gM hx);have lx:=xV aj;have HX:=fH hx;have TK:Hid ((c.nums.take (k+1)).map fU=(c.nums.take k).map fU++[fU x]):=by
    show _=_;obtain⟨ak,ap⟩:=gS hx;rw[tS ak,ap];simp
   go_upto_if 33 with(fail)
   go_cut [29] (fun s O=>s=.int .i64 k/\Hid (KO w O c (rC fmt c.plain++(if (c.nums.take k).map fU=[] then [] else iy 46 ((c.nums.take k).map fU)++[46]))))
   case first=>
    by_cases k0:0<k
    rotate_left
    ·have d1:decide ((0:Int)<(k:Int))=false:=dF (by omega);have d2:decide (0<k)=false:=dF k0;have E:Hid (rC fmt c.plain++(if (c.nums.take k).map fU=[] then [] else iy 46 ((c.nums.take k).map fU)++[46])=rC fmt c.plain++iy 46 ((c.nums.take k).map fU)):=by show _=_;(obtain rfl:k=0:=by omega);rfl
     go_wp2;go_meet;exact⟨rfl,by rw[E.out];exact M⟩
    ·have d1:decide ((0:Int)<(k:Int))=true:=dT (by omega);have d2:decide (0<k)=true:=dT (by omega);have E:Hid (rC fmt c.plain++(if (c.nums.take k).map fU=[] then [] else iy 46 ((c.nums.take k).map fU)++[46])=rC fmt c.plain++iy 46 ((c.nums.take k).map fU)++bl ⟨#[46]⟩):=by
      show _=_;rw[if_neg (by intro e;have:=congrArg List.length e;rw[List.length_map,List.length_take,List.length_nil] at this;omega),List.append_assoc];rfl
     go_wp2_with fail;refine(M.put ⟨#[46]⟩ (by rw[List.length_append];have aB:(⟨#[46]⟩:BA).size=1:=rfl;have:=Nat.min_le_right k c.nums.length;omega)).mono ?_;rintro e w2 ⟨rfl,I,X⟩;have H:=fH I;clear I X;go_wp2;go_meet;exact⟨rfl,by rw[E.out];exact H⟩
   case rest=>
   obtain⟨rfl,H⟩:=hcut;clear M;have k1:=H.box.cell 1 _ rfl;obtain⟨b,off,hA,he⟩:=(Rd.below HC H.bel).num k x hx;have aa:=fun W=>gi (T:=157) (E:=3) (sz:=1) (c:=c.nc) underlying157 rfl sizeOf3 hA ae W;simp only[Nat.mul_one] at aa;clear hx hA;go_wp2_with fail;refine mb (uT x _ (HG.below H.bel) aj) ?_;rintro w1 J;have T5:=fH (H.step J);clear J k1 he aa;go_wp2_with fail;refine(T5.put (sf x) (by
    rw[List.length_append];have:(if (c.nums.take k).map fU=[] then [] else iy 46 ((c.nums.take k).map fU)++[46]).length<=20*min k c.nums.length+1:=by
     split
     ·simp
     ·rw[List.length_append,List.length_singleton];omega
    have:=Nat.min_le_right k c.nums.length;omega)).mono ?_;rintro e w2 ⟨rfl,z,ah⟩
   have T6:=fH z;clear z ah;go_wp2;go_roundw
   case rel=>exact⟨k+1,by omega,by go_num,fH (by rw[TK.out,wC,<-List.append_assoc,<-sU x];exact T6.out)⟩
   case measure=>simp[intOf];omega
  ·have E:Hid (rC fmt c.plain++iy 46 ((c.nums.take k).map fU)=rC fmt c.plain++nL c.plain):=by
    show _=_;unfold nL;rw[tL (by omega)];rfl
   rw[E.out] at M;have nl:(nL c.plain).length<=20*c.nums.length:=Fa c.nums F.each;have au:=F.lt;have an:=F.pre;have k2:=M.box.cell 2 _ rfl;go_wp2_with fail;refine(M.put c.lt (by rw[List.length_append];omega)).mono ?_;rintro e w2 ⟨rfl,I,X⟩;have H:=fH I;clear I X k2;have aH:(qU fmt).size=1:=rfl;have aA:(xU fmt).size<=2:=by unfold xU jD;split<;>decide
   have k3:=H.box.cell 3 _ rfl;obtain⟨pb,ab⟩:∃ pb,c.pre.toList.isEmpty=pb:=⟨_,rfl⟩
   go_upto_if 48 with(fail)
   have ag:=fH ab;clear ab;go_cut [20] (fun s O=>s=.bool Y/\Hid (KO w O c (rC fmt c.plain++nL c.plain++bl c.lt++jd fmt c.plain)))
   case first=>
    cases pb
    rotate_left
    ·have p0:c.pre.size=0:=by have:=ag.out;rw[fK,gu] at this;exact dO this
     have E:Hid (jd fmt c.plain=[]):=by show _=_;unfold jd;rw[if_pos (show c.plain.pre=[] from hZ c.pre p0)]
     clear p0;go_wp2;go_meet;exact⟨rfl,by rw[E.out,List.append_nil];exact H⟩
    ·have ac:¬ c.pre.toList=[]:=by intro h;have:=ag.out;rw[h] at this;simp at this
     have E:Hid (jd fmt c.plain=bl (qU fmt++c.pre++sf c.pnum)):=by
      show _=_;unfold jd;rw[if_neg (show ¬ c.plain.pre=[] by show ¬ bl c.pre=[];rw[<-fK];exact ac),iO,iO,sU];rfl
     clear ac;have k4:=H.box.cell 4 _ rfl;have aD:(qU fmt++c.pre).size<=1001:=by rw[szA];omega
     have ay:(qU fmt++c.pre++sf c.pnum).size<=1020:=by rw[szA];omega
     have q1:=fun W=>run_string_add_sum (P:=prog) (w:=W) (qU fmt) c.pre (by omega);have q2:=fun W=>run_string_add_sum (P:=prog) (w:=W) (qU fmt++c.pre) (sf c.pnum) (by omega);have K:Hid (KO w w2.drew c (rC fmt c.plain++nL c.plain++bl c.lt)):=H.step (bR.drew);have ar:Hid ((rC fmt c.plain++nL c.plain++bl c.lt).length+(qU fmt++c.pre++sf c.pnum).size<=1000000):=by
      show _<=_;rw[List.length_append,List.length_append,fI];omega
     go_wp2
     go_region_held3 (fun w'=>w'.cell? ⟨w.heap.size,3,none⟩=some (.string c.pre)/\w'.cell? ⟨w.heap.size,4,none⟩=some (.int .i64 c.pnum))
      (first
        | go_keep
        | exact⟨z.box.cell 3 _ rfl,z.box.cell 4 _ rfl⟩
        | exact⟨(K.step D).box.cell 3 _ rfl,(K.step D).box.cell 4 _ rfl⟩)
      (first
        | (go_at_call 189;refine mb (uT c.pnum w2.drew (HG.below K.bel) F.pnum) ?_;rintro w5 D)
        | (go_at_call 188;refine((K.step D).put (qU fmt++c.pre++sf c.pnum) ar).mono ?_;rintro e w6 ⟨rfl,z,ah⟩))
     all_goals
      have T6:=fH z;go_wp2;go_meet;exact⟨rfl,by rw[E.out];exact T6⟩
   case rest=>
   obtain⟨rfl,T5⟩:=hcut;clear H k3;have k5:=T5.box.cell 5 _ rfl;have aG:(jd fmt c.plain).length<=1020:=by
    unfold jd;split
    ·simp
    ·have h1:(bl c.pre).length<=1000:=by rw[fI];exact an
     have h2:(fU c.pnum).length<=19:=by have:=fI (sf c.pnum);rw[sU] at this;omega
     show(vI fmt::(bl c.pre++fU c.pnum)).length<=1020;rw[List.length_cons,List.length_append];omega
   have aI:(bl c.lt).length<=1000:=by rw[fI];exact au
   go_wp2_with fail;refine mb (uT c.rev _ (HG.below T5.bel) F.rev) ?_;rintro w5 D;have T6:=fH (T5.step D);clear D k5;have aC:(xU fmt++sf c.rev).size<=21:=by rw[szA];omega
   go_wp2_with fail;refine(T6.put (xU fmt++sf c.rev) (by rw[List.length_append,List.length_append,List.length_append];omega)).mono ?_;rintro e w6 ⟨rfl,af,av⟩;have T7:=fH af;clear af av;go_wp2_with fail;refine mb (Tryz.Builder_String_any (w.heap.size+1) (w.heap.size+1) _ w6 T7.bld (Nat.le_of_lt T7.sz)) ?_;rintro w7 am;have HE:Hid (rC fmt c.plain++nL c.plain++bl c.lt++jd fmt c.plain++bl (xU fmt++sf c.rev)=gH fmt c.plain):=by
    show _=_;unfold gH ig;rw[iO,sU,show bl (xU fmt)=jD fmt from nj _];simp[jb.plain]
   have aq:Hid (Bw w w7):=T7.bel.trans (am.mono (Nat.le_succ _));rw[HE.out];go_wp2;go_ret;exact⟨rfl,aq⟩
theorem Fb:(prog.info? 3).map (fun i=>(i.zero,i.size,i.bytes))=some (some (.int .i64 0),1,8):=by kernel_rfl
theorem Ys (n:Nat)(w:World)(F:0<n)(Z:n<=100000):Calls prog 234 #[.slice none 0 0,.int .i64 n] w fun e w'=>∃ cap,e=.returned (.slice (some ⟨w.heap.size,0,none⟩) 0 cap)/\w'.ownsRow w.heap.size 3 1 (.slice (some ⟨w.heap.size,0,none⟩) 0 cap) 0 []/\Bw w w':=by
 obtain⟨H,U,D,M,z⟩:=info_parts Fb;have X:decide ((n:Int)<0)=false:=dF (by omega);have V:decide ((0:Int)<(n:Int))=true:=dT (by omega);have Y:decide (0<n)=true:=dT F;have R:=grownCap_ge w n 0 3;have I:=grownCap_le_maxLen w n 0 3 (by unfold maxLen;omega);have K:=Lib.run_append_nil_zeros (P:=prog) w 157 3 157 3 H (.int .i64 0) .i64 .i64 underlying157 underlying3 U D n F (by omega) (by omega) (by rw[z];omega);have J:=fH R;have O:=fH I;go_in;go_wp2_with (at_builtin;refine Lib.wpList_append_run _ rfl _ _ _ _ rfl _ _ rfl rfl _ _ K ?_);go_wp2;go_ret;refine⟨_,rfl,⟨rfl,.inr ⟨w.heap.size,_,_,rfl,lr,heap_alloc_new w.drew _,z0,O,?_,?_⟩⟩,(gh bR 1).alloc lr _⟩
 ·have:=J.out;simp[size_zeroCells,Value.cells];omega
 ·simp
theorem SJ (l:List Nat):∀ u∈iI l,u.oneCell'=true:=by
 intro u z;obtain⟨n,_,rfl⟩:=List.mem_map.1 z;rfl
theorem QK (H:Nat)(A B:OA)(c d:Nat)(z F:List Nat)(w:World)(Z:w.cell? ⟨H,0,none⟩=some (.slice A z.length c))(h1:w.cell? ⟨H,1,none⟩=some (.slice B F.length d))
  (hA:Rd w 1 A z.length (iI z))(hB:Rd w 1 B F.length (iI F))(n0:0<z.length)(n1:z.length<=1000)(n2:F.length<=10000):Calls prog 186 #[.slice (some ⟨H,0,none⟩) 2 2] w fun e w'=>∃ R cap,e=.returned (.slice R (z++F).length cap)/\Rd w' 1 R (z++F).length (iI (z++F))/\Bw w w':=by
 obtain⟨i0,hi,O,V,Y⟩:=info_parts Fb;have HA:=fH hA;have HB:=fH hB;have J:=World.block_lt_of_cell? _ _ Z;have ad:∀ W,(Instr.indexAt 320 (.slice (some ⟨H,0,none⟩) 2 2) (.int .i64 0)).run prog W=.ok (.pointer (some ⟨H,0,none⟩)) W:=fun W=>by
  have:=gi (T:=320) (E:=157) (sz:=1) (A:=some ⟨H,0,none⟩) (b:=H) (off:=0) (n:=2) (c:=2) (k:=0) underlying320 rfl sizeOf157 rfl (by omega) W;simpa using this
 have ac:∀ W,(Instr.indexAt 320 (.slice (some ⟨H,0,none⟩) 2 2) (.int .i64 1)).run prog W=.ok (.pointer (some ⟨H,1,none⟩)) W:=fun W=>by
  have:=gi (T:=320) (E:=157) (sz:=1) (A:=some ⟨H,0,none⟩) (b:=H) (off:=0) (n:=2) (c:=2) (k:=1) underlying320 rfl sizeOf157 rfl (by omega) W;simpa using this
 go_in;go_wp2;go_loop [3,11] (fun s i=>∃ (k m:Nat),k<=2/\i=.int .i64 k/\s=.int .i64 m/\Hid (m=if k=0 then 0 else if k=1 then z.length else z.length+F.length)) (fun _ i=>2-(intOf i).toNat)
 case atStart=>exact⟨0,0,by omega,rfl,rfl,rfl⟩
 case round=>
  obtain⟨k,m,hk,rfl,rfl,hm⟩:=hrel;rcases(by omega:k=0\/k=1\/k=2) with rfl | rfl | rfl
  ·obtain rfl:m=0:=hm.out;have q1:decide (((0:Nat):Int)+(z.length:Int)<0)=false:=dF (by omega);have q2:decide ((z.length:Int)<0)=false:=dF (by omega);go_wp2;go_round
   case rel=>exact⟨1,z.length,by omega,by go_num,by go_num,rfl⟩
   case measure=>simp[intOf]
  ·obtain rfl:m=z.length:=hm.out;have q1:decide ((z.length:Int)+(F.length:Int)<0)=false:=dF (by omega);go_wp2;go_round
   case rel=>exact⟨2,z.length+F.length,by omega,by go_num,by go_num,rfl⟩
   case measure=>simp[intOf]
  ·obtain rfl:m=z.length+F.length:=hm.out;go_wp2_with fail;refine(Ys (z.length+F.length) _ (by omega) (by omega)).mono ?_;rintro e w1 ⟨cap,rfl,aa,ab⟩;have O1:=fH aa;have B1:=fH ab;have g0:=(B1.cell (p:=⟨H,0,none⟩) J).trans Z;have g1:=(B1.cell (p:=⟨H,1,none⟩) J).trans h1;go_wp2;go_loopw [6,27] (fun v i wr=>∃ (k:Nat) (L:List Nat),k<=2/\i=.int .i64 k/\Hid (L=if k=0 then [] else if k=1 then z else z++F)/\Hid (wr.ownsRow w.heap.size 3 1 v L.length (iI L))/\Hid (Bw w wr)) (fun _ i _=>2-(intOf i).toNat)
   case atStart=>exact⟨0,[],by omega,rfl,rfl,O1,B1⟩
   case round=>
    obtain⟨k,L,hk,rfl,HL,M,D⟩:=hrel;obtain⟨Ao,co,rfl⟩:=gg M.out;have g0:=(D.cell (p:=⟨H,0,none⟩) J).trans Z;have g1:=(D.cell (p:=⟨H,1,none⟩) J).trans h1;rcases(by omega:k=0\/k=1\/k=2) with rfl | rfl | rfl
    ·obtain rfl:L=[]:=HL.out;have RA:=fH ((HA.below D).reads (by omega));go_wp2_with (at_builtin;refine fR _ rfl _ _ _ rfl w.heap.size 3 i0 _ 1 8 underlying157 hi O V Y rfl (by omega) (.slice Ao 0 co) 0 _ rfl M.out _ A z.length c (iI z) rfl RA.out (SJ z) (by simp only[maxLen];omega) (by omega) D.size ?_;intro v1 X I K U);have O2:Hid (X.ownsRow w.heap.size 3 1 v1 z.length (iI z)):=fH (by have:=I;simpa [iI] using this);have B2:Hid (Bw w X):=D.grown K D.size (fun q hq=>(M.lt q hq).1);go_wp2;go_roundw
     case rel=>exact⟨1,z,by omega,by go_num,rfl,O2,B2⟩
     case measure=>simp[intOf]
    ·obtain rfl:L=z:=HL.out;have RB:=fH ((HB.below D).reads (by omega));go_wp2_with (at_builtin;refine fR _ rfl _ _ _ rfl w.heap.size 3 i0 _ 1 8 underlying157 hi O V Y rfl (by omega) (.slice Ao L.length co) L.length _ rfl M.out _ B F.length d (iI F) rfl RB.out (SJ F) (by simp only[maxLen];omega) (by omega) D.size ?_;intro v1 X I K U);have O2:Hid (X.ownsRow w.heap.size 3 1 v1 (L++F).length (iI (L++F))):=fH (by have:=I;simpa [iI] using this);have B2:Hid (Bw w X):=D.grown K D.size (fun q hq=>(M.lt q hq).1);go_wp2;go_roundw
     case rel=>exact⟨2,L++F,by omega,by go_num,rfl,O2,B2⟩
     case measure=>simp[intOf]
    ·obtain rfl:L=z++F:=HL.out;go_wp2;go_ret;exact⟨Ao,co,rfl,gR M,D⟩
def Vu (c:gQ):Int:=if pK c=true then 0 else 11
theorem uk {c:gQ}(h:pK c=false):Vu c=11:=by unfold Vu;rw[if_neg (by rw[h];simp)]
def qF (c:gQ):Bool:=(c.pre.isEmpty&&decide (c.pnum=0))||jg.contains c.pre
theorem Vv {c:gQ}(h:c.nums=[]):pK c=false:=by unfold pK;rw[h];rfl
theorem Vw {c:gQ}{x:Nat}(z:x∈[c.ep,c.pnum,c.rev]++c.nums)(h:¬ x<=999999999):pK c=false:=by
 cases hb:pK c with
 | false=>rfl
 | true=>
  have ok:=(uR c).1 hb;rw[List.mem_append] at z;rcases z with z | z
  ·simp only[List.mem_cons,List.not_mem_nil,or_false] at z;rcases z with rfl | rfl | rfl
   ·exact absurd ok.ep h
   ·exact absurd ok.pnum h
   ·exact absurd ok.rev h
  ·exact absurd (ok.each x z) h
theorem QL {c:gQ}(J:c.nums≠[])(z:∀ x∈[c.ep,c.pnum,c.rev]++c.nums,x<=999999999):pK c=(SH c.lt&&(qF c&&decide ((gH 1 c).length<=64))):=by
 unfold pK qF;have F:c.nums.isEmpty=false:=by cases h:c.nums with | nil=>exact absurd h J | cons a r=>rfl
 have K:(c.nums.all fun n=>decide (n<=999999999))=true:=by rw[List.all_eq_true];intro x M;exact dT (z x (List.mem_append_right _ M))
 have H:=z c.ep (by simp);have I:=z c.pnum (by simp);have D:=z c.rev (by simp);rw[F,K,dT H,dT I,dT D];simp
structure CoS (w wr:World) (c:jb):Prop where
 bel:Bw w wr
 box:fV wr w.heap.size c.cells
theorem CoS.step {c:jb}(h:CoS w wr c)(z:Bw wr w'):CoS w w' c:=⟨fM h.bel z,h.box.below z⟩
theorem Rd.three (w:World)(a b d:Nat):Rd (w.alloc (.cells #[.int .i64 a,.int .i64 b,.int .i64 d] 3)) 1 (some ⟨w.heap.size,0,none⟩) [a,b,d].length (iI [a,b,d]):=by
 refine⟨rfl,fun _=>⟨_,_,rfl,fun j u z=>?_⟩⟩;have:=(fV.new w (iI [a,b,d]) 3).cell j u z;simpa [iI] using this
theorem QM (c:jb)(w:World)(hG:QI w)(hc:c.ok w)(hf:c.few):Calls prog 134 #[c.val] w fun e w'=>e=.returned (.int .i64 (Vu c.plain))/\Bw w w':=by
 have HG:=fH hG;have HC:=fH hc;have Z:=fH hf;clear hG hc hf;have au:=Z.len;obtain⟨K,ah⟩:∃ K,w.alloc (.cells #[.int .i64 c.ep,.slice c.na c.nums.length c.nc,.string c.lt,.string c.pre,.int .i64 c.pnum,.int .i64 c.rev] 159)=K:=⟨_,rfl⟩
 have Y:Hid (CoS w K c):=by show CoS _ _ _;rw[<-ah];exact⟨bR.alloc lr _,fV.new w c.cells _⟩
 have k0:=Y.box.cell 0 _ rfl;have k1:=Y.box.cell 1 _ rfl;have k4:=Y.box.cell 4 _ rfl;have k5:=Y.box.cell 5 _ rfl;unfold jb.val;by_cases M:c.nums.length=0
 ·have q:((c.nums.length:Int)==0)=true:=by rw[M];rfl
  have E:=fH (uk (Vv (c:=c.plain) (List.length_eq_zero_iff.1 M)));clear M;go_in;go_wp2;go_ret;exact⟨fT E.out.symm,Y.bel⟩
 have q:((c.nums.length:Int)==0)=false:=beq_eq_false_iff_ne.2 (by omega);have an:Hid (c.plain.nums≠[]):=by intro e;apply M;rw[show c.nums=[] from e];rfl
 clear M;obtain⟨O,ab⟩:∃ O,K.alloc (.cells #[.int .i64 c.ep,.int .i64 c.pnum,.int .i64 c.rev] 3)=O:=⟨_,rfl⟩
 obtain⟨W2,aa⟩:∃ W2,O.alloc (.cells #[.slice (some ⟨K.heap.size,0,none⟩) 3 3,.slice c.na c.nums.length c.nc] 157)=W2:=⟨_,rfl⟩
 have B1:Hid (Bw K O):=by rw[<-ab];exact bR.alloc lr _
 have B2:Hid (Bw O W2):=by rw[<-aa];exact bR.alloc lr _
 have D3:Hid (Rd O 1 (some ⟨K.heap.size,0,none⟩) [c.ep,c.pnum,c.rev].length (iI [c.ep,c.pnum,c.rev])):=by show Rd _ _ _ _ _;rw[<-ab];exact Rd.three K c.ep c.pnum c.rev
 have K2:Hid (fV W2 O.heap.size [.slice (some ⟨K.heap.size,0,none⟩) 3 3,.slice c.na c.nums.length c.nc]):=by show fV _ _ _;rw[<-aa];exact fV.new O [.slice (some ⟨K.heap.size,0,none⟩) 3 3,.slice c.na c.nums.length c.nc] _
 have R2:=fH ((Y.step B1).step B2);have ar:O.cell? ⟨w.heap.size,1,none⟩=some (.slice c.na c.nums.length c.nc):=(Y.step B1).box.cell 1 _ rfl;go_in;go_wp2_with fail;refine(QK O.heap.size (some ⟨K.heap.size,0,none⟩) c.na 3 c.nc [c.ep,c.pnum,c.rev] c.nums W2 (K2.cell 0 _ rfl) (K2.cell 1 _ rfl) (D3.below B2) (Rd.below HC R2.bel) (by simp) (by simp) (by omega)).mono ?_;rintro e w3 ⟨R,cap,rfl,hR,af⟩;have RL:=fH hR;have z:=fH (R2.step af);clear hR af k0 k1 k4 k5 ar ah ab aa Y R2 B1 B2 D3 K2 q;obtain⟨L,hL⟩:∃ L,[c.ep,c.pnum,c.rev]++c.nums=L:=⟨_,rfl⟩
 have HL:=fH hL;have ax:L.length<=1003:=by rw[<-hL];simp;omega
 rw[hL] at RL;rw[hL];clear hL;have aq:Hid (∀ x∈L,x<=4611686018427387903):=by
  intro x F;rw[<-HL.out,List.mem_append] at F;rcases F with F | F
  ·simp only[List.mem_cons,List.not_mem_nil,or_false] at F;rcases F with rfl | rfl | rfl
   ·exact Z.ep
   ·exact Z.pnum
   ·exact Z.rev
  ·exact Z.each x F
 go_wp2;go_loopw [21] (fun i wr=>∃ k:Nat,k<=L.length/\i=.int .i64 k/\Hid (∀ x∈L.take k,x<=999999999)/\wr=w3) (fun i _=>L.length-(intOf i).toNat)
 case atStart=>exact⟨0,z0,rfl,by simp[Hid],rfl⟩
 case round=>
  obtain⟨k,hk,rfl,HT,rfl⟩:=hrel;by_cases ac:k<L.length
  ·obtain⟨x,F⟩:∃ x,L[k]?=some x:=⟨_,gG ac⟩
   obtain⟨b,off,hA,he⟩:=RL.num k x F;have am:=fun W=>gi (T:=157) (E:=3) (sz:=1) (c:=cap) underlying157 rfl sizeOf3 hA ac W;simp only[Nat.mul_one] at am;have HX:=fH F;have ay:=aq.out x (gM F);clear F hA;have d1:decide ((x:Int)<0)=false:=dF (by omega);by_cases I:x<=999999999
   ·have d2:decide ((999999999:Int)<(x:Int))=false:=dF (by omega);have d3:decide (999999999<x)=false:=dF (by omega);have HB:=fH I;clear I;go_wp2;go_roundw
    case rel=>exact⟨k+1,by omega,by go_num,fH (fun y hy=>by
     obtain⟨ao,ap⟩:=gS HX.out;rw[tS ao,ap] at hy;rcases List.mem_append.1 hy with hy | hy
     ·exact HT.out y hy
     ·rw[List.mem_singleton.1 hy];exact HB.out),by trivial⟩
    case measure=>simp[intOf];omega
   ·have d2:decide ((999999999:Int)<(x:Int))=true:=dT (by omega);have d3:decide (999999999<x)=true:=dT (by omega);have E:=fH (uk (Vw (c:=c.plain) (x:=x) (by rw[show[c.plain.ep,c.plain.pnum,c.plain.rev]++c.plain.nums=L from HL.out];exact gM HX) I));clear I;go_wp2;go_ret;exact⟨fT E.out.symm,z.bel⟩
  ·have H:Hid (pK c.plain=(SH (bl c.lt)&&(qF c.plain&&decide ((gH 1 c.plain).length<=64)))):=
    QL an (fun x F=>HT.out x (by rw[tL (by omega)];rw[<-HL.out];exact F))
   have k2:=z.box.cell 2 _ rfl;have k3:=z.box.cell 3 _ rfl;have k4:=z.box.cell 4 _ rfl;have az:=Z.lt;have av:=Z.pre;go_upto_region 9 with(fail)
   go_cut [47] (fun s wx=>∃ X:Bool,s=.bool X/\Hid (X=!SH (bl c.lt))/\wr=wx)
   case first=>
    obtain⟨pb,J⟩:∃ pb,c.lt.toList.isEmpty=pb:=⟨_,rfl⟩
    cases pb
    rotate_left
    ·have U:c.lt.size=0:=by rw[fK,gu] at J;exact dO J
     have E:Hid (false=!SH (bl c.lt)):=by show _=_;rw[hZ c.lt U];rfl
     clear U;go_wp2;go_meet;exact⟨false,rfl,E,rfl⟩
    ·have U:¬ c.lt.size=0:=by intro h;rw[fK,gu,dT h] at J;cases J
     by_cases p1:c.lt.size=1
     ·have d1:((c.lt.size:Int) != 1)=false:=by rw[p1];rfl
      have ad:0<c.lt.size:=by omega
      have E:Hid ((!it c.lt[0])=!SH (bl c.lt)):=by
       show _=_;have ht:(bl c.lt).tail=[]:=by rw[<-List.drop_one];exact List.drop_of_length_le (by rw[fI];omega)
       rw[mL c.lt ad,ht];rfl
      clear U p1;go_wp2_with fail;refine mb (ED c.lt[0] _) ?_;rintro w' rfl;go_wp2;go_meet;exact⟨_,rfl,E,rfl⟩
     ·have d1:((c.lt.size:Int) != 1)=true:=by simp[bne];omega
      have E:Hid (true=!SH (bl c.lt)):=by
       show _=_;have hl:=fI c.lt
       match h:bl c.lt with
       | []=>rw[h] at hl;simp at hl;omega
       | [b]=>rw[h] at hl;simp at hl;omega
       | a::b::r=>rfl
      clear U p1;go_wp2;go_meet;exact⟨true,rfl,E,rfl⟩
   case rest=>
   obtain⟨X,rfl,D,rfl⟩:=hcut;clear k2;cases X
   case true=>
    have E:=fH (uk (c:=c.plain) (by rw[H.out];have:=D.out;revert this;cases SH (bl c.lt)<;>simp));go_wp2;go_ret;exact⟨fT E.out.symm,z.bel⟩
   have HB:Hid (SH (bl c.lt)=true):=by have:=D.out;show _=_;revert this;cases SH (bl c.lt)<;>simp
   clear D;go_upto_region 11 with(fail)
   go_cut [66] (fun s wx=>∃ X:Bool,s=.bool X/\Hid (X=!qF c.plain)/\wr=wx)
   case first=>
    have aj:=fH (HG.below z.bel);obtain⟨pb,J⟩:∃ pb,c.pre.toList.isEmpty=pb:=⟨_,rfl⟩
    have ag:=fH J;cases pb
    rotate_left
    ·have U:bl c.pre=[]:=by have:=ag.out;rw[fK,gu] at this;exact hZ c.pre (dO this)
     have E0:Hid (qF c.plain=decide (c.pnum=0)):=by
      show _=_;unfold qF;rw[show c.plain.pre=[] from U];show(true&&decide (c.pnum=0)||jg.contains [])=_;rw[show jg.contains []=false from by decide];simp
     clear U;by_cases V:c.pnum=0
     ·have d0:((c.pnum:Int) != 0)=false:=by rw[V];rfl
      have E:Hid (false=!qF c.plain):=by show _=_;rw[E0.out,dT V];rfl
      clear V;go_wp2;go_meet;exact⟨false,rfl,E,rfl⟩
     ·have d0:((c.pnum:Int) != 0)=true:=by simp[bne];omega
      have E:Hid (true=!qF c.plain):=by show _=_;rw[E0.out,dF V];rfl
      clear V;go_wp2;go_meet;exact⟨true,rfl,E,rfl⟩
    ·have U:bl c.pre≠[]:=by intro h;have:=ag.out;rw[fK,h] at this;cases this
     have E0:Hid (qF c.plain=decide (zI c.pre<4)):=by
      show _=_;rw[Vt];unfold qF;have:c.plain.pre.isEmpty=false:=by cases h:bl c.pre with | nil=>exact absurd h U | cons a r=>show(bl c.pre).isEmpty=false;rw[h];rfl
      rw[this];rfl
     clear U;have ai:zI c.pre<=4:=by unfold zI;(repeat' split)<;>omega
     by_cases V:zI c.pre=4
     ·have d0:((zI c.pre:Int)==4)=true:=by rw[V];rfl
      have E:Hid (true=!qF c.plain):=by show _=_;rw[E0.out,dF];rfl
      clear V ai;go_wp2_with fail;refine mb (xX c.pre _ aj) ?_;rintro w' rfl;go_wp2;go_meet;exact⟨true,rfl,E,rfl⟩
     ·have d0:((zI c.pre:Int)==4)=false:=beq_eq_false_iff_ne.2 (by omega);have E:Hid (false=!qF c.plain):=by show _=_;rw[E0.out,dT];rfl
      clear V ai;go_wp2_with fail;refine mb (xX c.pre _ aj) ?_;rintro w' rfl;go_wp2;go_meet;exact⟨false,rfl,E,rfl⟩
   case rest=>
   obtain⟨X,rfl,D,rfl⟩:=hcut;clear k3 k4;cases X
   case true=>
    have E:=fH (uk (c:=c.plain) (by rw[H.out,HB.out];have:=D.out;revert this;cases qF c.plain<;>simp));go_wp2;go_ret;exact⟨fT E.out.symm,z.bel⟩
   have HP:Hid (qF c.plain=true):=by have:=D.out;show _=_;revert this;cases qF c.plain<;>simp
   clear D;have k0:=z.box.cell 0 _ rfl;have k1:=z.box.cell 1 _ rfl;have k2:=z.box.cell 2 _ rfl;have k3:=z.box.cell 3 _ rfl;have k4:=z.box.cell 4 _ rfl;have k5:=z.box.cell 5 _ rfl;go_wp2_with fail;refine mb (Jc 1 c _ (HG.below z.bel) (Rd.below HC z.bel) Z) ?_;rintro w4 ak;have B4:=fH (fM z.bel ak);clear ak k0 k1 k2 k3 k4 k5;obtain⟨T,hT⟩:∃ T:BA,(⟨(gH 1 c.plain).toArray⟩:BA)=T:=⟨_,rfl⟩
   have al:Hid ((gH 1 c.plain).length=T.size):=by show _=_;rw[<-hT];simp[ByteArray.size]
   rw[hT];clear hT;by_cases ae:64<T.size
   ·have d1:decide ((64:Int)<(T.size:Int))=true:=dT (by omega);have d2:decide (64<T.size)=true:=dT ae;have E:=fH (uk (c:=c.plain) (by rw[H.out,HB.out,HP.out,dF (by rw[al.out];omega)];rfl));go_wp2;go_ret;exact⟨fT E.out.symm,B4⟩
   ·have d1:decide ((64:Int)<(T.size:Int))=false:=dF (by omega);have d2:decide (64<T.size)=false:=dF ae;have E:Hid (Vu c.plain=0):=by show _=_;unfold Vu;rw[if_pos (by rw[H.out,HB.out,HP.out,dT (by rw[al.out];omega)];rfl)]
    go_wp2;go_ret;exact⟨fT E.out.symm,B4⟩
def ul (r:LU×Int):Value:=.tuple #[.string ⟨r.1.toArray⟩,.int .i64 r.2]
theorem KP {c:gQ}(h:iR fmt c=false):ul (vq fmt c)=.tuple #[.string ⟨#[]⟩,.int .i64 11]:=by unfold vq;rw[if_neg (by rw[h];simp)];rfl
theorem KQ {c:gQ}(h:iR fmt c=true):ul (vq fmt c)=.tuple #[.string ⟨(gH fmt c).toArray⟩,.int .i64 0]:=by unfold vq;rw[if_pos h];rfl
theorem Vx {c:gQ}(h:pK c=false):iR fmt c=false:=by unfold iR;rw[h];rfl
theorem Vy {c:gQ}(h:pK c=true)(D:fmt=1\/fmt=2):iR fmt c=true:=by
 have z:=((uR c).1 h).short;unfold iR;rw[h,dF (by rintro⟨e,_⟩;omega)];rcases D with rfl | rfl
 ·rw[dT z];rfl
 ·rw[aaz,dT z];rfl
theorem Fc (fmt:Int)(I:iY fmt)(c:jb)(w:World)(hG:QI w)(hc:c.ok w)(hf:c.few):Calls prog 81 #[.int .i64 fmt,c.val] w fun e w'=>e=.returned (ul (vq fmt c.plain))/\Bw w w':=by
 have HG:=fH hG;have HC:=fH hc;have HF:=fH hf;have H:tu fmt=false:=by unfold tu;rw[dT I];rfl
 have M:=fH fun W=>zz fmt W;rw[H] at M;have U:=fH I;obtain⟨R,V⟩:∃ R,w.alloc (.cells #[.int .i64 c.ep,.slice c.na c.nums.length c.nc,.string c.lt,.string c.pre,.int .i64 c.pnum,.int .i64 c.rev] 159)=R:=⟨_,rfl⟩
 have F:Hid (CoS w R c):=by show CoS _ _ _;rw[<-V];exact⟨bR.alloc lr _,fV.new w c.cells _⟩
 have k0:=F.box.cell 0 _ rfl;have k1:=F.box.cell 1 _ rfl;have k2:=F.box.cell 2 _ rfl;have k3:=F.box.cell 3 _ rfl;have k4:=F.box.cell 4 _ rfl;have k5:=F.box.cell 5 _ rfl;unfold jb.val;go_in;go_wp2_with fail;refine mb (M _) ?_;rintro w' rfl;go_wp2_with fail;refine mb (QM c _ (HG.below F.bel) (Rd.below HC F.bel) HF) ?_;rintro w1 aa;have z:=fH (F.step aa);unfold Vu;cases hcb:pK c.plain
 ·have E:=fH (KP (Vx (fmt:=fmt) hcb));simp only[Bool.false_eq_true,if_false];go_wp2;go_ret2;exact⟨by rw[E.out];rfl,z.bel⟩
 have D:=fH hcb;simp only[if_true];have k0:=z.box.cell 0 _ rfl;have k1:=z.box.cell 1 _ rfl;have k2:=z.box.cell 2 _ rfl;have k3:=z.box.cell 3 _ rfl;have k4:=z.box.cell 4 _ rfl;have k5:=z.box.cell 5 _ rfl;go_wp2_with fail;refine mb (Jc fmt c _ (HG.below z.bel) (Rd.below HC z.bel) HF) ?_;rintro w2 Z;have J:=fH (z.step Z);obtain⟨T,X⟩:∃ T:BA,(⟨(gH fmt c.plain).toArray⟩:BA)=T:=⟨_,rfl⟩
 have K:Hid ((gH fmt c.plain).length=T.size):=by show _=_;rw[<-X];simp[ByteArray.size]
 have HT:=fH X;rw[X];have k0:=J.box.cell 0 _ rfl;by_cases Y:fmt=3
 ·have q3:(fmt==3)=true:=by rw[Y];rfl
  have H3:=fH Y;by_cases he:c.ep=0
  ·have qe:((c.ep:Int) != 0)=false:=by rw[he];rfl
   have HE:=fH he;by_cases O:64<T.size
   ·have d1:decide ((64:Int)<(T.size:Int))=true:=dT (by omega);have d2:decide (64<T.size)=true:=dT O;have E:=fH (KP (fmt:=fmt) (c:=c.plain) (by unfold iR;rw[D.out,dF (p:=(gH fmt c.plain).length<=64) (by rw[K.out];omega)];simp));go_wp2;go_ret2;exact⟨by rw[E.out];rfl,J.bel⟩
   ·have d1:decide ((64:Int)<(T.size:Int))=false:=dF (by omega);have d2:decide (64<T.size)=false:=dF O;have E:=fH (KQ (fmt:=fmt) (c:=c.plain) (by unfold iR;rw[D.out,dT (p:=(gH fmt c.plain).length<=64) (by rw[K.out];omega),dF (p:=fmt=3/\c.plain.ep≠0) (by rintro⟨_,h⟩;exact h HE)];rfl));go_wp2;go_ret2;exact⟨by rw[E.out,HT.out];rfl,J.bel⟩
  ·have qe:((c.ep:Int) != 0)=true:=by simp[bne];omega
   have E:=fH (KP (fmt:=fmt) (c:=c.plain) (by unfold iR;rw[D.out,dT (p:=fmt=3/\c.plain.ep≠0) ⟨H3.out,he⟩];rfl));go_wp2;go_ret2;exact⟨by rw[E.out];rfl,J.bel⟩
 ·have q3:(fmt==3)=false:=by simpa using Y
  have E:=fH (KQ (Vy (fmt:=fmt) (c:=c.plain) D (by have:=U.out;unfold iY at this;omega)));go_wp2;go_ret2;exact⟨by rw[E.out,HT.out];rfl,J.bel⟩
def Ff:LV:=[.int .i64 0,.slice none 0 0,.string ⟨#[]⟩,.string ⟨#[]⟩,.int .i64 0,.int .i64 0]
structure KU (w wr:World) (cb:Nat) (vs:LV):Prop where
 bel:Bw w wr
 res:fV wr w.heap.size Ff
 box:fV wr cb vs
 lo:w.heap.size<cb
theorem KU.step (h:KU w wr cb vs)(z:Bw wr w'):KU w w' cb vs:=⟨fM h.bel z,h.res.below z,h.box.below z,h.lo⟩
theorem KU.set (h:KU w wr cb vs)(j:Nat)(z:j<vs.length)(v:Value):KU w (wr.setCell ⟨cb,j,none⟩ v) cb (vs.set j v):=
 ⟨fO h.bel (Nat.le_of_lt h.lo) _,h.res.far (by have:=h.lo;omega) _,h.box.set j z v,h.lo⟩
theorem QN (h:fV wr b Ff):wr.cell? ⟨b,0,none⟩=some (.int .i64 0)/\wr.cell? ⟨b,1,none⟩=some (.slice none 0 0)/\wr.cell? ⟨b,2,none⟩=some (.string ⟨#[]⟩)/\wr.cell? ⟨b,3,none⟩=some (.string ⟨#[]⟩)/\wr.cell? ⟨b,4,none⟩=some (.int .i64 0)/\wr.cell? ⟨b,5,none⟩=some (.int .i64 0) /\
  wr.frozen? ⟨b,0,none⟩=false/\wr.frozen? ⟨b,1,none⟩=false/\wr.frozen? ⟨b,2,none⟩=false/\wr.frozen? ⟨b,3,none⟩=false/\wr.frozen? ⟨b,4,none⟩=false/\wr.frozen? ⟨b,5,none⟩=false:=
 ⟨h.cell 0 _ rfl,h.cell 1 _ rfl,h.cell 2 _ rfl,h.cell 3 _ rfl,h.cell 4 _ rfl,h.cell 5 _ rfl,h.free 0 (by decide),h.free 1 (by decide),h.free 2 (by decide),h.free 3 (by decide),h.free 4 (by decide),h.free 5 (by decide)⟩
abbrev aaC (wr:World) (b:Nat) (v0 v1 v2 v3 v4 v5:Value):World:=(((((wr.setCell ⟨b,0,none⟩ v0).setCell ⟨b,1,none⟩ v1).setCell ⟨b,2,none⟩ v2).setCell ⟨b,3,none⟩ v3).setCell ⟨b,4,none⟩ v4).setCell ⟨b,5,none⟩ v5
theorem sX (h:Bw w wr)(H F D z I J:Value):Bw w (aaC wr w.heap.size H F D z I J):=
 fO (fO (fO (fO (fO (fO h lr _) lr _) lr _) lr _) lr _) lr _
theorem KW {tmps:Array Value}(h:fV wr w.heap.size Ff)(ht:tmps[4]?=some (.pointer (some ⟨w.heap.size,0,none⟩))){k:Int}(z:tmps[5]?=some (.int .i64 k))(a:Int)(A:OA)(n c:Nat)(l p:BA)(x y:Int):
  (results Tryz.f80 tmps).run prog (aaC wr w.heap.size (.int .i64 a) (.slice A n c) (.string l) (.string p) (.int .i64 x) (.int .i64 y)) =
   .ok (.tuple #[.agg #[.int .i64 a,.slice A n c,.string l,.string p,.int .i64 x,.int .i64 y],.int .i64 k]) (aaC wr w.heap.size (.int .i64 a) (.slice A n c) (.string l) (.string p) (.int .i64 x) (.int .i64 y)):=by
 obtain⟨J,I,D,H,F,K,X,R,M,U,O,V⟩:=QN h;simp(maxDischargeDepth:=9) [results,results80,ht,z,go_sem,J,I,D,H,F,K]
theorem Fg:∀ (l w:LU),QB l w=Lib.hasPrefix l w
 | [],[]=>rfl
 | _::_,[]=>rfl
 | [],_::_=>rfl
 | a::l,b::w=>by
  have:=Fg l w;unfold Lib.hasPrefix at this |-;simp only[QB,List.isPrefixOf,this];rw[show(a==b)=(b==a) from Bool.eq_iff_iff.2 (by simp only[beq_iff_eq];exact eq_comm)]
theorem QO (k:Nat)(h:k<4):jg.take (k+1)=jg.take k++[bl (jO k)]:=by
 rcases(by omega:k=0\/k=1\/k=2\/k=3) with rfl | rfl | rfl | rfl<;>rfl
def AP (tail:LU)(k:Nat):LU×Nat:=(jg.take k).foldl (Ey tail) ([],0)
theorem QP (z:LU)(k:Nat)(h:k<4):AP z (k+1)=Ey z (AP z k) (bl (jO k)):=by
 unfold AP;rw[QO k h,List.foldl_append];rfl
theorem VA (z:LU):AP z 4=jg.foldl (Ey z) ([],0):=rfl
theorem fV.grownR {c:Nat}(h:fV wr c vs)(F:wr.grownBy w' row)(z:some c≠row):fV w' c vs:=by
 have D:w'.heap[c]?=wr.heap[c]?:=F.block c h.sz z;refine⟨Nat.lt_of_lt_of_le h.sz F.size,fun j u I=>?_,fun j H=>?_⟩
 ·exact(World.cell?_of_block (a:=⟨c,j,none⟩) D).trans (h.cell j u I)
 ·exact(World.frozen?_of_block (a:=⟨c,j,none⟩) D).trans (h.free j H)
theorem KU.grown (h:KU w wr cb vs)(D:wr.grownBy w' row)(z:∀ g,row=some g->base<=g)(J:cb<base):KU w w' cb vs:=by
 have lo:=h.lo;have I:some cb≠row:=fun e=>by have:=z cb e.symm;omega
 have H:some w.heap.size≠row:=fun e=>by have:=z _ e.symm;omega
 exact⟨h.bel.grown D h.bel.size (fun j F=>by have:=z j F;omega),h.res.grownR D H,h.box.grownR D I,lo⟩
theorem QS (w:World)(x:Value):nE (w.alloc (.cells #[x] 3)) (w.heap.size+1) 1 (some ⟨w.heap.size,0,none⟩) 1 [x]:=by
 refine⟨rfl,fun _=>⟨_,rfl,by simp,fun j u z=>?_⟩⟩;cases j with
 | zero=>simp at z;subst z;simp[Addr.add]
 | succ j=>simp at z
structure NuS (w w5 wr:World) (cb gb base:Nat) (nv:Value) (L:List Nat) (vs:Value->LV):Prop where
 pc:KU w wr cb (vs nv)
 own:wr.ownsRow base 3 1 nv L.length (iI L)
 txt:wr.heap[gb]?=w5.heap[gb]?
 sz:base<=wr.heap.size
theorem NuS.app {w5 w6:World}{gb:Nat}{nv v1:Value}{L:List Nat}{x:Nat}{a b c d e:Value}(h:NuS w w5 wr cb gb base nv L (fun v=>[a,v,b,c,d,e]))(o:Obj)
  (z:w6.ownsRow base 3 1 v1 (L.length+1) (iI L++[.int .i64 x]))(I:(wr.alloc o).grownBy w6 nv.ownBlock)(F:cb<base)(R:gb<base)(H:gb≠cb):
  NuS w w5 (w6.setCell ⟨cb,1,none⟩ v1) cb gb base v1 (L++[x]) (fun v=>[a,v,b,c,d,e]):=by
 have M:∀ g,nv.ownBlock=some g->base<=g:=fun g J=>(h.own.lt g J).1;have O:=(h.pc.step (bR.alloc lr o)).grown I M F;have D:w6.grownBy (w6.setCell ⟨cb,1,none⟩ v1) (some cb):=fX (World.grownBy.refl w6 (some cb)) (.inl rfl) _;refine⟨O.set 1 (by simp) v1,?_,?_,?_⟩
 ·have U:iI (L++[x])=iI L++[.int .i64 x]:=by simp[iI]
  rw[U,List.length_append,List.length_singleton];refine z.kept D ?_;cases hq:v1.ownBlock with
  | none=>exact .inl rfl
  | some q=>right;intro K;injection K with K;have:=(z.lt q hq).1;omega
 ·rw[Below.heap_setCell w6 ⟨cb,1,none⟩ v1 gb (by exact H)];have Y:=h.sz;rw[I.block gb (by simp;omega) (fun e=>by have:=M gb e.symm;omega),Below.heap_alloc wr o gb (by omega)];exact h.txt
 ·have:=I.size;have V:=D.size;have X:=h.sz;simp at this;omega
theorem SL (z:BA)(m:Nat)(D:m<z.size)(F:z.size=m+1):pJ (bl z)=if it z[m]=true then [z[m]] else []:=by
 have:(bl z).getLast?=some z[m]:=by
  rw[List.getLast?_eq_getElem?,fI,F,Nat.add_sub_cancel,gG (by rw[fI];exact D),oE z m D]
 unfold pJ;rw[this]
theorem QT (wr:World)(b:Nat)(H F D z I J:Value):wr.grownBy (aaC wr b H F D z I J) (some b):=
 fX (fX (fX (fX (fX (fX (World.grownBy.refl wr (some b)) (.inl rfl) _) (.inl rfl) _) (.inl rfl) _) (.inl rfl) _) (.inl rfl) _) (.inl rfl) _
theorem aaD {ep pr rv hd tl h' lt pw:BA}{SP:List BA}{epn pn rvn:Nat}(J:(if bl ep=[] then 0 else kj (bl ep))=epn)(H:kj (bl rv)=rvn)
  (M:bl hd=(Lib.cut (bl pr) [vI fmt]).1)(I:bl tl=(Lib.cut (bl pr) [vI fmt]).2.1)(z:AP (bl tl) 4=(bl pw,pn))(D:bl h'=AI (bl hd))(K:bl lt=pJ (bl hd))(F:SP.map bl=jq 46 (bl h'))(R:OA)(O:Nat):
  ue fmt (bl ep,bl pr,bl rv)=(⟨epn,R,O,SP.map fun d=>kj (bl d),lt,pw,pn,rvn⟩:jb).plain:=by
 rw[VA] at z;unfold ue jb.plain;simp only;rw[<-M,<-I,z,<-D,<-K,<-F,List.map_map,<-J,<-H];rfl
theorem Yw {x:LU×LU×LU}(D:gL fmt s=0)(z:la fmt (bl s)=some x)(h:fits fmt (bl s) (ue fmt x)=false):oj fmt s=11:=by
 have:sd fmt (bl s)=none:=by unfold sd;rw[z];simp only;rw[if_neg (by rw[h];simp)]
 unfold oj;rw[if_neg (by simpa using D),if_pos this]
theorem Yx {x:LU×LU×LU}(D:gL fmt s=0)(z:la fmt (bl s)=some x)(h:fits fmt (bl s) (ue fmt x)=true):oj fmt s=0/\sd fmt (bl s)=some (ue fmt x):=by
 have:sd fmt (bl s)=some (ue fmt x):=by unfold sd;rw[z];simp only;rw[if_pos h]
 exact⟨by unfold oj;rw[if_neg (by simpa using D),this,if_neg (by simp)],this⟩
def VB (fmt:Int)(s:BA)(w:World)(e:Ending)(w':World):Prop:=
 ∃ cl:jb,e=.returned (.tuple #[cl.val,.int .i64 (oj fmt s)])/\cl.ok w'/\cl.few/\(oj fmt s=0->sd fmt (bl s)=some cl.plain)/\Bw w w'
def jb.zero:jb:=⟨0,none,0,[],⟨#[]⟩,⟨#[]⟩,0,0⟩
theorem jb.zero_few:jb.zero.few:=⟨by decide,by simp[jb.zero],by decide,by decide,by decide,by decide,by decide⟩
theorem Fh (fmt:Int)(aH:iY fmt)(s:BA)(w:World)(hG:QI w)(hs:s.size<=9223372036854775807):Calls prog 80 #[.int .i64 fmt,.string s] w (VB fmt s w):=by
 have HG:=fH hG;have ay:=fH aH;clear hG aH;obtain⟨W0,al⟩:∃ W0,w.alloc (.cells #[.int .i64 0,.slice none 0 0,.string ⟨#[]⟩,.string ⟨#[]⟩,.int .i64 0,.int .i64 0] 159)=W0:=⟨_,rfl⟩
 have B0:Hid (Bw w W0):=by rw[<-al];exact bR.alloc lr _
 have K0:Hid (fV W0 w.heap.size Ff):=by show fV _ _ _;rw[<-al];exact fV.new w Ff _
 go_in;go_wp2_with fail;clear al;refine(sW fmt ay s _ (HG.below B0).gl hs).mono ?_;rintro e w1 ⟨ep,pr,rv,rfl,hS,au⟩;have HS:=fH hS;have B1:=fH (fM B0 au);have K1:=fH (K0.below au);clear hS au B0 K0;by_cases hv:¬ gL fmt s=0
 ·have E:Hid (oj fmt s=gL fmt s):=by show _=_;unfold oj;rw[if_pos hv]
  have E0:Hid (¬ oj fmt s=0):=by show ¬ _;rw[E.out];exact hv
  have q:(gL fmt s != 0)=true:=by simpa [bne] using hv
  obtain⟨r0,r1,r2,r3,r4,r5,f0,f1,f2,f3,f4,f5⟩:=QN K1.out;generalize gL fmt s=ve at *;clear hv;go_wp2_with fail;refine bodyPost_ret (KW K1 rfl rfl 0 none 0 0 _ _ 0 0) rfl ?_;exact⟨jb.zero,by rw[E.out];rfl,Rd.nil _ _ _,jb.zero_few,fun h=>absurd h E0,sX B1 _ _ _ _ _ _⟩
 have ad:gL fmt s=0:=Decidable.not_not.1 hv;obtain⟨am,bB,bp,bt,br⟩:=HS.out ad;have aD:=fH (Yw ad am);have aP:=fH (Yx ad am);have q:(gL fmt s != 0)=false:=by rw[ad];rfl
 generalize gL fmt s=ve at *;clear hv ad am HS;obtain⟨W2,aG⟩:∃ W2,w1.alloc (.cells #[.int .i64 0,.slice none 0 0,.string ⟨#[]⟩,.string ⟨#[]⟩,.int .i64 0,.int .i64 0] 159)=W2:=⟨_,rfl⟩
 have P0:Hid (KU w W2 w1.heap.size Ff):=by
  show KU _ _ _ _;rw[<-aG];exact⟨fM B1 (bR.alloc lr _),K1.alloc _,fV.new w1 Ff _,K1.sz⟩
 have aZ:=fH P0.lo;clear B1 K1;obtain⟨pb,av⟩:∃ pb,ep.toList.isEmpty=pb:=⟨_,rfl⟩
 go_upto_if 40 with(fail)
 have aL:=fH av;clear av aG;generalize w1.heap.size=cb at *;have bv:w.heap.size<cb:=aZ.out;have bu:¬ w.heap.size=cb:=by omega
 have bs:¬ cb=w.heap.size:=by omega
 go_cut [40] (fun sl wx=>(∃ b:Bool,sl=.bool b)/\Hid (KU w wx cb [.int .i64 (if bl ep=[] then (0:Nat) else kj (bl ep):Nat),.slice none 0 0,.string ⟨#[]⟩,.string ⟨#[]⟩,.int .i64 0,.int .i64 0]))
 case first=>
  cases pb
  ·have e0:¬ bl ep=[]:=by intro h;have:=aL.out;rw[fK,h] at this;cases this
   have E:Hid ((if bl ep=[] then (0:Nat) else kj (bl ep))=kj (bl ep)):=by show _=_;rw[if_neg e0]
   clear e0;have k0:=P0.box.cell 0 _ rfl;have f0:=P0.box.free 0 (by decide);go_wp2_with fail;refine mb (uU ep _ (by omega)) ?_;rintro w' rfl;have P1:=fH (P0.set 0 (by decide) (.int .i64 (kj (bl ep))));go_wp2;go_meet;exact⟨⟨_,rfl⟩,by rw[E.out];exact P1⟩
  ·have e0:bl ep=[]:=by have:=aL.out;rw[fK,gu] at this;exact hZ ep (dO this)
   have E:Hid ((if bl ep=[] then (0:Nat) else kj (bl ep))=0):=by show _=_;rw[if_pos e0]
   clear e0;go_wp2;go_meet;exact⟨⟨_,rfl⟩,by rw[E.out];exact P0⟩
 case rest=>
 obtain⟨⟨bx,rfl⟩,P1⟩:=hcut;clear P0;obtain⟨D,X⟩:∃ n:Nat,(if bl ep=[] then 0 else kj (bl ep))=n:=⟨_,rfl⟩
 have aU:=fH X;rw[X] at P1;have aS:Hid (D<=4611686018427387903):=by show _<=_;rw[<-X];split;omega;exact uV _
 clear X;have k5:=P1.box.cell 5 _ rfl;have f5:=P1.box.free 5 (by simp);go_wp2_with fail;refine mb (uU rv _ (by omega)) ?_;rintro w' rfl;obtain⟨z,V⟩:∃ n:Nat,kj (bl rv)=n:=⟨_,rfl⟩
 have bi:=fH V;have aC:Hid (z<=4611686018427387903):=by show _<=_;rw[<-V];exact uV _
 rw[V];clear V;have P2:Hid (KU w (wc.setCell ⟨cb,5,none⟩ (.int .i64 z)) cb [.int .i64 D,.slice none 0 0,.string ⟨#[]⟩,.string ⟨#[]⟩,.int .i64 0,.int .i64 z]):=P1.set 5 (by simp) (.int .i64 z);clear P1;go_upto_region 8 with(fail)
 clear k5 f5;generalize wc.setCell ⟨cb,5,none⟩ (.int .i64 z)=W3 at *;go_wp2_with fail;refine mb (EE fmt _) ?_;rintro w' rfl;go_wp2_with fail;refine mb (iH pr (qU fmt) _ (HG.below P2.bel).gl (by omega)) ?_;rintro w4 aT;have P3:=fH (P2.step aT);clear aT P2;have aE:(nx pr (qU fmt)).size<=64:=by have:=wS pr (qU fmt);omega
 have bq:(qp pr (qU fmt)).size<=64:=by
  have h1:=(JV (bl pr) (bl (qU fmt))).2;have h2:=fI (qp pr (qU fmt));rw[mM] at h2;have h3:=fI pr;omega
 have ba:Hid (bl (nx pr (qU fmt))=(Lib.cut (bl pr) [vI fmt]).1):=li _ _;have bm:Hid (bl (qp pr (qU fmt))=(Lib.cut (bl pr) [vI fmt]).2.1):=mM _ _;generalize nx pr (qU fmt)=hd at *;generalize qp pr (qU fmt)=tl at *;generalize Gy pr (qU fmt)=kk at *;have g0:=(HG.below P3.bel).prs 0 (by omega);have g1:=(HG.below P3.bel).prs 1 (by omega);have g2:=(HG.below P3.bel).prs 2 (by omega);have g3:=(HG.below P3.bel).prs 3 (by omega);go_wp2_with fail;clear g0 g1 g2 g3;go_loopw [66] (fun i wr=>∃ (k H:Nat) (I:BA),k<=4/\i=.int .i64 k/\Hid (AP (bl tl) k=(bl I,H))/\Hid (H<=4611686018427387903)/\I.size<=1000/\Hid (KU w wr cb [.int .i64 D,.slice none 0 0,.string ⟨#[]⟩,.string I,.int .i64 H,.int .i64 z])) (fun i _=>4-(intOf i).toNat)
 case atStart=>exact⟨0,0,⟨#[]⟩,by omega,rfl,rfl,by show _<=_;omega,by decide,P3⟩
 case round=>
  clear P3;obtain⟨k,H,I,hk,rfl,HF,aI,aK,P4⟩:=hrel;by_cases Z:k<4
  ·have aj:=fun W=>adj k Z jO W;have vs:(jO k).size<=5:=by rcases(by omega:k=0\/k=1\/k=2\/k=3) with rfl | rfl | rfl | rfl<;>decide
   have HN:=fH (QP (bl tl) k Z);have k3:=P4.box.cell 3 _ rfl;have k4:=P4.box.cell 4 _ rfl;have f3:=P4.box.free 3 (by simp);have f4:=P4.box.free 4 (by simp);generalize jO k=wd at *;cases hbg:QB (bl tl) (bl wd)
   ·have HH:Hid (Lib.hasPrefix (bl tl) (bl wd)=false):=by show _=_;rw[<-Fg];exact hbg
    have E:Hid (AP (bl tl) (k+1)=(bl I,H)):=by show _=_;rw[HN.out,HF.out];unfold Ey;rw[if_neg (by rw[hbg];simp)]
    clear hbg;go_wp2_with fail;refine mb (sL tl wd _ HH) ?_;rintro w' rfl;go_wp2;go_roundw
    case rel=>exact⟨k+1,H,I,by omega,by go_num,E,aI,aK,P4⟩
    case measure=>simp[intOf];omega
   ·have HH:Hid (Lib.hasPrefix (bl tl) (bl wd)=true):=by show _=_;rw[<-Fg];exact hbg
    have ap:bl (tl.extract wd.size tl.size)=(bl tl).drop (bl wd).length:=by rw[ik,fI]
    have E:Hid (AP (bl tl) (k+1)=(bl wd,kj (bl (tl.extract wd.size tl.size)))):=by
     show _=_;rw[HN.out,HF.out,ap];unfold Ey;rw[if_pos hbg];rfl
    have bA:(tl.extract wd.size tl.size).size<=64:=by have:=fI (tl.extract wd.size tl.size);rw[ap,List.length_drop] at this;have h2:=fI tl;omega
    have P5:Hid (KU w (wr.setCell ⟨cb,3,none⟩ (.string wd)) cb [.int .i64 D,.slice none 0 0,.string ⟨#[]⟩,.string wd,.int .i64 H,.int .i64 z]):=P4.set 3 (by simp) (.string wd);clear hbg ap;go_wp2_with fail;refine mb (rA tl wd _ HH) ?_;rintro w' rfl;go_wp2_with fail;generalize tl.extract wd.size tl.size=dg at *;refine mb (uU dg _ (by omega)) ?_;rintro w' rfl;have bc:Hid (kj (bl dg)<=4611686018427387903):=uV _;generalize kj (bl dg)=un at *;have P6:Hid (KU w ((wr.setCell ⟨cb,3,none⟩ (.string wd)).setCell ⟨cb,4,none⟩ (.int .i64 un)) cb [.int .i64 D,.slice none 0 0,.string ⟨#[]⟩,.string wd,.int .i64 un,.int .i64 z]):=P5.set 4 (by simp) (.int .i64 un);clear P5;go_wp2;go_roundw
    case rel=>exact⟨k+1,un,wd,by omega,by go_num,E,bc,by omega,P6⟩
    case measure=>simp[intOf];omega
  ·obtain rfl:k=4:=by omega
   clear hk Z;go_upto_region 19 with(fail)
   go_cut [95] (fun sl wx=>∃ bb:Bool,sl=.bool bb/\Hid (bb=!(pJ (bl hd)).isEmpty)/\wr=wx)
   case first=>
    by_cases h0:0<hd.size
    rotate_left
    ·have d0:decide ((0:Int)<(hd.size:Int))=false:=dF (by omega);have d1:decide (0<hd.size)=false:=dF h0;have E:Hid (false=!(pJ (bl hd)).isEmpty):=by show _=_;rw[hZ hd (by omega)];rfl
     go_wp2;go_meet;exact⟨false,rfl,E,rfl⟩
    ·have d0:decide ((0:Int)<(hd.size:Int))=true:=dT (by omega);have d1:decide (0<hd.size)=true:=dT h0;obtain⟨m,hm⟩:∃ m,hd.size-1=m:=⟨_,rfl⟩
     have ac:m<hd.size:=by omega
     have bg:(m:Int)<(hd.size:Int):=by omega
     have iw:IntKind.i64.wrap ((hd.size:Int)-1)=(m:Int):=by rw[IntWalk.i64_in _ (by omega)];omega
     have E:Hid (it hd[m]=!(pJ (bl hd)).isEmpty):=by
      show _=_;rw[SL hd m ac (by omega)];cases it hd[m]<;>rfl
     clear hm;go_wp2_with fail;refine mb (ED hd[m] _) ?_;rintro w' rfl;go_wp2;go_meet;exact⟨_,rfl,E,rfl⟩
   case rest=>
   obtain⟨bb,rfl,ao,rfl⟩:=hcut;go_upto_if 95 with(fail)
   go_cut [13] (fun sl wx=>∃ J lt:BA,sl=.string J/\Hid (bl J=AI (bl hd))/\J.size<=64/\Hid (bl lt=pJ (bl hd))/\lt.size<=64/\Hid (KU w wx cb [.int .i64 D,.slice none 0 0,.string lt,.string I,.int .i64 H,.int .i64 z]))
   case first=>
    cases bb
    ·have L0:Hid (pJ (bl hd)=[]):=by have:=ao.out;show _=_;revert this;cases pJ (bl hd)<;>simp
     go_wp2;go_meet;exact⟨hd,⟨#[]⟩,rfl,by show _=_;unfold AI;rw[if_pos L0.out],aE,by show _=_;rw[L0.out];rfl,by decide,P4⟩
    ·obtain⟨m,hm⟩:∃ m,hd.size-1=m:=⟨_,rfl⟩
     have h0:0<hd.size:=by
      apply Classical.byContradiction;intro h;have:=ao.out;rw[hZ hd (by omega)] at this;revert this;decide
     have ac:m<hd.size:=by omega
     have bg:(m:Int)<=(hd.size:Int):=by omega
     have iw:IntKind.i64.wrap ((hd.size:Int)-1)=(m:Int):=by rw[IntWalk.i64_in _ (by omega)];omega
     have hz:Hid (hd.size=m+1):=by show _=_;omega
     have L1:Hid (pJ (bl hd)=[hd[m]]):=by
      have:=ao.out;have h2:=SL hd m ac hz.out;show _=_;rw[h2] at this |-;revert this;cases it hd[m]<;>simp
     have E1:Hid (bl (hd.extract 0 m)=AI (bl hd)):=by
      show _=_;unfold AI;rw[if_neg (by rw[L1.out];simp),jp,List.dropLast_eq_take,fI,hz.out];rfl
     have E2:Hid (bl (hd.extract m hd.size)=pJ (bl hd)):=by
      show _=_;rw[L1.out,ik,List.drop_eq_getElem_cons (by rw[fI];exact ac),oE hd m ac,List.drop_of_length_le (by rw[fI,hz.out];omega)]
     have z1:(hd.extract 0 m).size<=64:=by have:=fI (hd.extract 0 m);rw[jp,List.length_take,fI] at this;omega
     have z2:(hd.extract m hd.size).size<=64:=by have:=fI (hd.extract m hd.size);rw[ik,List.length_drop,fI] at this;omega
     have k2:=P4.box.cell 2 _ rfl;have f2:=P4.box.free 2 (by simp);have P5:Hid (KU w (wr.setCell ⟨cb,2,none⟩ (.string (hd.extract m hd.size))) cb [.int .i64 D,.slice none 0 0,.string (hd.extract m hd.size),.string I,.int .i64 H,.int .i64 z]):=P4.set 2 (by simp) (.string (hd.extract m hd.size));clear hm;go_wp2;go_region;go_wp2;go_meet;exact⟨_,_,rfl,E1,z1,E2,z2,P5.step (gh bR 1)⟩
   case rest=>
   obtain⟨J,lt,rfl,HH,bo,aX,bd,P5⟩:=hcut;clear P4;obtain⟨i0,hi,aY,bj,bf⟩:=info_parts Fb;go_wp2_with fail;refine(Yt 46 J _ (HG.below P5.bel).gl (by omega)).mono ?_;rintro e w5 ⟨rfl,an,aR⟩;have P6:=fH (P5.step aR);have bz:=P5.box.sz;have aM:(lj 46 J).length<=65:=by unfold lj;rw[List.length_map];have:=Fd 46 (bl J);rw[fI] at this;omega
   have ax:Hid (∀ x∈lj 46 J,x.size<=64):=by
    intro x hx;obtain⟨p,hp,rfl⟩:=List.mem_map.1 hx;have h1:=sV 46 (bl J) p hp;have h2:=fI J;have h3:=fI (⟨p.toArray⟩:BA);rw[nj] at h3;omega
   have aJ:Hid ((lj 46 J).map bl=jq 46 (bl J)):=by
    show _=_;unfold lj;rw[List.map_map]
    conv=>rhs;rw[<-List.map_id (jq 46 (bl J))]
    exact List.map_congr_left fun p _=>nj p
   generalize wc.heap.size=gb at *;have ah:0<(lj 46 J).length:=by unfold lj;rw[List.length_map];exact List.length_pos_iff.2 (IV 46 _)
   have RD:=fH an;have af:gb<w5.heap.size:=by
    obtain⟨x,hx⟩:∃ x,(lj 46 J)[0]?=some x:=⟨_,gG ah⟩
    obtain⟨b,off,hA,he⟩:=an.str 0 x hx;have:=World.block_lt_of_cell? _ _ he;injection hA with hA;injection hA with h1 _ _;subst h1;exact this
   have ai:cb<w5.heap.size:=P6.box.sz;have aF:gb≠cb:=by omega
   clear an aR P5;obtain⟨R,ak⟩:∃ R,lj 46 J=R:=⟨_,rfl⟩
   rw[ak] at RD ax aJ aM ah;rw[ak];clear ak;obtain⟨base,ab⟩:∃ base,w5.heap.size=base:=⟨_,rfl⟩
   have N0:Hid (NuS w w5 w5 cb gb base (.slice none 0 0) [] (fun v=>[.int .i64 D,v,.string lt,.string I,.int .i64 H,.int .i64 z])):=
    ⟨P6,World.ownsRow_nil _ _ _ _,rfl,by omega⟩
   rw[ab] at af ai;clear ab P6;go_wp2;go_loopw [108] (fun i wr=>∃ (k:Nat) (K:OA) (O:Nat),k<=R.length/\i=.int .i64 k/\Hid (NuS w w5 wr cb gb base (.slice K k O) ((R.take k).map fun d=>kj (bl d)) (fun v=>[.int .i64 D,v,.string lt,.string I,.int .i64 H,.int .i64 z]))) (fun i _=>R.length-(intOf i).toNat)
   case atStart=>exact⟨0,none,0,z0,rfl,N0⟩
   case round=>
    clear N0;obtain⟨k,K,O,hk,rfl,F⟩:=hrel;by_cases Z:k<R.length
    ·obtain⟨x,hx⟩:∃ x,R[k]?=some x:=⟨_,gG Z⟩
     obtain⟨b,off,hA,he⟩:=RD.str k x hx;obtain⟨rfl,rfl⟩:gb=b/\0=off:=by injection hA with hA;injection hA with h1 h2 _;exact⟨h1,h2⟩
     have e0:wr.cell? ⟨gb,0+k,none⟩=some (.string x):=(World.cell?_of_block (a:=⟨gb,0+k,none⟩) F.txt).trans he;have aj:=fun W=>gi (T:=33) (E:=9) (sz:=1) (c:=R.length) underlying33 rfl sizeOf9 hA Z W;simp only[Nat.mul_one,Nat.zero_add] at aj e0;have bC:=ax.out x (gM hx);have TK:Hid ((R.take (k+1)).map (fun d=>kj (bl d))=(R.take k).map (fun d=>kj (bl d))++[kj (bl x)]):=by
      show _=_;obtain⟨aV,be⟩:=gS hx;rw[tS aV,be];simp
     have LK:Hid (((R.take k).map fun d=>kj (bl d)).length=k):=by show _=_;rw[List.length_map,List.length_take];omega
     clear hx hA he;go_wp2_with fail;refine mb (uU x _ (by omega)) ?_;rintro w' rfl;clear e0 aj;obtain⟨un,aq⟩:∃ un,kj (bl x)=un:=⟨_,rfl⟩
     rw[aq] at TK;rw[aq];clear aq;obtain⟨LL,aO⟩:∃ LL,(R.take k).map (fun d=>kj (bl d))=LL:=⟨_,rfl⟩
     rw[aO] at F TK LK;clear aO;have k1:=F.pc.box.cell 1 _ rfl;have f1:=F.pc.box.free 1 (by simp);have HO:Hid (wr.ownsRow base 3 1 (.slice K k O) k (iI LL)):=by have:=F.own;rw[LK.out] at this;exact this
     have bw:=F.sz;have aA:=F.pc.box.sz;have FB:Hid (some cb≠(Value.slice K k O).ownBlock):=by intro e;have:=(HO.lt cb e.symm).1;omega
     go_wp2_with (
      at_builtin
      refine fR _ rfl _ _ _ rfl base 3 i0 _ 1 8 underlying157 hi aY bj bf rfl (by omega) (.slice K k O) k _ rfl (HO.alloc _) (wr.heap.size+1) (some ⟨wr.heap.size,0,none⟩) 1 1 [.int .i64 un] rfl (QS wr _) (by simp[Value.oneCell']) (by simp only[maxLen];omega) (by omega) (by simp;omega) ?_;intro v1 w6 M ae az;obtain⟨A1,c1,rfl⟩:=gg M;have bk:w6.cell? ⟨cb,1,none⟩=some (.slice K k O):=ae.cell ((World.cell?_alloc_lt wr _ ⟨cb,1,none⟩ aA).trans k1) FB.out;have bn:w6.frozen? ⟨cb,1,none⟩=false:=(World.frozen?_of_block (a:=⟨cb,1,none⟩) (ae.block cb (by simp;omega) FB)).trans (((bR.alloc lr _).frozen (p:=⟨cb,1,none⟩) aA).trans f1))
     have N1:=fH (F.app _ (x:=un) (by rw[LK.out];exact M) ae ai af aF);clear M ae az k1 f1 bk bn;go_wp2;go_roundw
     case rel=>exact⟨k+1,A1,c1,by omega,by go_num,by rw[TK.out];exact N1⟩
     case measure=>simp[intOf];omega
    ·obtain rfl:k=R.length:=by omega
     obtain⟨U,aa⟩:∃ U,R.map (fun d=>kj (bl d))=U:=⟨_,rfl⟩
     have HC:=fH (aaD (fmt:=fmt) (ep:=ep) (pr:=pr) (rv:=rv) aU bi ba bm HF HH aX aJ K O);rw[List.take_length,aa] at F;rw[aa] at HC;have hl:R.length=U.length:=by rw[<-aa,List.length_map]
     have bh:Hid (∀ n∈U,n<=4611686018427387903):=by
      intro n hn;rw[<-aa] at hn;obtain⟨d,_,rfl⟩:=List.mem_map.1 hn;exact uV _
     have bD:U.length<=65:=by omega
     rw[hl] at F;have k0:=F.pc.box.cell 0 _ rfl;have k1:=F.pc.box.cell 1 _ rfl;have k2:=F.pc.box.cell 2 _ rfl;have k3:=F.pc.box.cell 3 _ rfl;have k4:=F.pc.box.cell 4 _ rfl;have k5:=F.pc.box.cell 5 _ rfl;have aN:Hid ((⟨D,K,O,U,lt,I,H,z⟩:jb).few):=⟨aS,bh,by show U.length<=1000;omega,by show lt.size<=1000;omega,aK,aI,aC⟩
     clear aa hl;go_wp2_with fail;refine mb (Fc fmt ay ⟨D,K,O,U,lt,I,H,z⟩ _ (HG.below F.pc.bel) (gR F.own) aN) ?_;rintro w7 ar;have Y:=fH (F.pc.step ar);have O7:=fH (ge F.own ar);clear k0 k1 k2 k3 k4 k5 ar;obtain⟨r0,r1,r2,r3,r4,r5,f0,f1,f2,f3,f4,f5⟩:=QN Y.res;cases hpb2:iR fmt (⟨D,K,O,U,lt,I,H,z⟩:jb).plain
     ·have E:Hid (oj fmt s=11):=aD.out (by rw[HC.out];unfold fits;rw[hpb2];rfl);rw[KP hpb2];clear hpb2;go_wp2_with fail;refine bodyPost_ret (KW Y.res rfl rfl 0 none 0 0 _ _ 0 0) rfl ?_;exact⟨jb.zero,by rw[E.out];rfl,Rd.nil _ _ _,jb.zero_few,(fun h=>by rw[E.out] at h;cases h),sX Y.bel _ _ _ _ _ _⟩
     ·rw[KQ hpb2];have ag:=fH hpb2;clear hpb2;obtain⟨T,hT⟩:∃ T:BA,(⟨(gH fmt (⟨D,K,O,U,lt,I,H,z⟩:jb).plain).toArray⟩:BA)=T:=⟨_,rfl⟩
      have aQ:Hid (gH fmt (⟨D,K,O,U,lt,I,H,z⟩:jb).plain=bl T):=by show _=_;rw[<-hT,nj]
      rw[hT];clear hT;obtain⟨tb,aW⟩:∃ tb,(T.toList==s.toList)=tb:=⟨_,rfl⟩
      have aB:=fH aW;cases tb
      ·have E:Hid (oj fmt s=11):=aD.out (by
        rw[HC.out];unfold fits;rw[ag.out,aQ.out];have:¬ bl T=bl s:=by intro h;have h2:=aB.out;rw[kY] at h2;exact of_decide_eq_false h2 (kG h)
        rw[dF this];rfl)
       go_wp2_with fail;refine bodyPost_ret (KW Y.res rfl rfl 0 none 0 0 _ _ 0 0) rfl ?_;exact⟨jb.zero,by rw[E.out];rfl,Rd.nil _ _ _,jb.zero_few,(fun h=>by rw[E.out] at h;cases h),sX Y.bel _ _ _ _ _ _⟩
      ·have E:=fH (aP (by
        rw[HC.out];unfold fits;rw[ag.out,aQ.out];have:bl T=bl s:=by have h2:=aB.out;rw[kY] at h2;rw[dO h2]
        rw[dT this];rfl))
       have k0:=Y.box.cell 0 _ rfl;have k1:=Y.box.cell 1 _ rfl;have k2:=Y.box.cell 2 _ rfl;have k3:=Y.box.cell 3 _ rfl;have k4:=Y.box.cell 4 _ rfl;have k5:=Y.box.cell 5 _ rfl;go_wp2_with fail;refine bodyPost_ret (KW Y.res rfl rfl D K U.length O lt I H z) rfl ?_;refine⟨⟨D,K,O,U,lt,I,H,z⟩,by rw[E.out.1];rfl,?_,aN,(fun _=>by rw[E.out.2,HC.out]),sX Y.bel _ _ _ _ _ _⟩;refine gR (O7.kept (QT w7 w.heap.size _ _ _ _ _ _) ?_);cases hq:(Value.slice K U.length O).ownBlock with
       | none=>exact .inl rfl
       | some g=>right;intro he;injection he with he;have:=(O7.lt g hq).1;omega
theorem Jd {a b:Int}(s:BA)(h:¬ iY a\/¬ iY b):trans a b s=([],9):=by unfold trans;rw[if_pos h]
theorem VC {a b:Int}(D:iY a)(F:iY b)(h:¬ oj a s=0):trans a b s=([],oj a s):=by
 unfold trans;rw[if_neg (by rintro(x | x);exact x D;exact x F)];unfold oj at h |-;by_cases z:gL a s=0
 ·rw[if_neg (by simpa using z)] at h |-;rw[if_neg (by simpa using z)];cases hp:sd a (bl s) with
  | none=>rw[if_pos rfl]
  | some c=>rw[hp] at h;simp at h
 ·rw[if_pos z,if_pos z]
theorem Yy {a b:Int}(D:iY a)(H:iY b)(h:oj a s=0){c:gQ}(F:sd a (bl s)=some c):trans a b s=vq b c:=by
 unfold trans;rw[if_neg (by rintro(x | x);exact x D;exact x H)];unfold oj at h;by_cases z:gL a s=0
 ·rw[if_neg (by simpa using z),F]
 ·rw[if_pos z] at h;exact absurd h z
theorem qG (a b:Int)(s:BA)(w:World)(hG:QI w)(hs:s.size<=9223372036854775807):Calls prog 47 #[.int .i64 a,.int .i64 b,.string s] w fun e w'=>e=.returned (ul (trans a b s))/\Bw w w':=by
 have HG:=fH hG;have D:=fH fun W=>zz a W;have F:=fH fun W=>zz b W;by_cases ha:¬ iY a
 ·have E:=fH (Jd (a:=a) (b:=b) s (.inl ha));have J:tu a=true:=by unfold tu;rw[dF ha];rfl
  rw[J] at D;go_in;go_wp2_with fail;refine mb (D _) ?_;rintro w' rfl;go_wp2;go_ret2;exact⟨by rw[E.out];rfl,bR⟩
 have M:iY a:=Decidable.not_not.1 ha;have J:tu a=false:=by unfold tu;rw[dT M];rfl
 rw[J] at D;have HA:=fH M;by_cases X:¬ iY b
 ·have E:=fH (Jd (a:=a) (b:=b) s (.inr X));have J:tu b=true:=by unfold tu;rw[dF X];rfl
  rw[J] at F;go_in;go_wp2_with fail;refine mb (D _) ?_;rintro w' rfl;go_wp2_with fail;refine mb (F _) ?_;rintro w' rfl;go_wp2;go_ret2;exact⟨by rw[E.out];rfl,bR⟩
 have H:iY b:=Decidable.not_not.1 X;have J:tu b=false:=by unfold tu;rw[dT H];rfl
 rw[J] at F;have Z:=fH H;go_in;go_wp2_with fail;refine mb (D _) ?_;rintro w' rfl;go_wp2_with fail;refine mb (F _) ?_;rintro w' rfl;go_wp2_with fail;refine(Fh a HA s _ HG hs).mono ?_;rintro e K ⟨z,rfl,ab,R,aa,H⟩;have HO:=fH ab;have HF:=fH R;have Y:=fH aa;have B1:=fH H;unfold jb.val;have U:Hid (Bw K (K.alloc (.cells #[.int .i64 z.ep,.slice z.na z.nums.length z.nc,.string z.lt,.string z.pre,.int .i64 z.pnum,.int .i64 z.rev] 159))):=bR.alloc lr _;by_cases hz:¬ oj a s=0
 ·have E:=fH (VC HA Z hz);have q:(oj a s != 0)=true:=by simpa [bne] using hz
  generalize oj a s=pe at *;go_wp2;go_ret2;exact⟨by rw[E.out];rfl,fM B1 U⟩
 ·have I:oj a s=0:=Decidable.not_not.1 hz;have E:=fH (Yy HA Z I (Y I));have q:(oj a s != 0)=false:=by rw[I];rfl
  generalize oj a s=pe at *;obtain⟨V,O⟩:∃ V,K.alloc (.cells #[.int .i64 z.ep,.slice z.na z.nums.length z.nc,.string z.lt,.string z.pre,.int .i64 z.pnum,.int .i64 z.rev] 159)=V:=⟨_,rfl⟩
  have K2:Hid (fV V K.heap.size z.cells):=by show fV _ _ _;rw[<-O];exact fV.new K z.cells _
  rw[O] at U;obtain⟨k0,k1,k2,k3,k4,k5⟩:=cF6 K2.cell;go_wp2_with fail;refine mb (Fc b Z z V (HG.below (fM B1 U)) (Rd.below HO U) HF) ?_;rintro w3 ac;have B3:=fH (fM (fM B1 U) ac);obtain⟨⟨r1,r2⟩,hr⟩:∃ r,vq b z.plain=r:=⟨_,rfl⟩
  rw[hr] at E;rw[hr];unfold ul;go_wp2;go_ret2;exact⟨by rw[E.out];rfl,B3⟩
theorem rD (n:Int)(w:World):Calls prog 30 #[.int .i64 n] w fun e w'=>e=.returned (.bool (decide (iY n)))/\w=w':=by
 go_in;go_wp2
 all_goals (go_ret;refine⟨fJ ?_,rfl⟩;rw[bI];simp[iY];omega)
def gz (a b:Int)(g:fP):fP×Int:=
 if hH (bl g.nm)=false then (⟨⟨#[]⟩,0,⟨#[]⟩⟩,10) else if g.op=0 then (⟨g.nm,0,⟨#[]⟩⟩,0) else if (trans a b g.ver).2≠0 then (⟨⟨#[]⟩,0,⟨#[]⟩⟩,11) else (⟨g.nm,g.op,⟨(trans a b g.ver).1.toArray⟩⟩,0)
def Yz (r:fP×Int):Value:=.tuple #[.agg #[.string r.1.nm,.int .i64 r.1.op,.string r.1.ver],.int .i64 r.2]
def fP.val (g:fP):Value:=.agg #[.string g.nm,.int .i64 g.op,.string g.ver]
theorem AQ (a b:Int)(g:fP)(w:World)(hG:QI w)(h1:g.nm.size<=9223372036854775807)(h2:g.ver.size<=9223372036854775807):Calls prog 57 #[.int .i64 a,.int .i64 b,g.val] w fun e w'=>e=.returned (Yz (gz a b g))/\Bw w w':=by
 have HG:=fH hG;clear hG;obtain⟨U,z⟩:∃ U,(w.alloc (.cells #[.string g.nm,.int .i64 g.op,.string g.ver] 78)).alloc (.cells #[.string ⟨#[]⟩,.int .i64 0,.string ⟨#[]⟩] 78)=U:=⟨_,rfl⟩
 have V:Hid (Bw w U):=by rw[<-z];exact(bR.alloc lr _).alloc (by simp) _
 have Y:Hid (fV U w.heap.size [.string g.nm,.int .i64 g.op,.string g.ver]):=by show fV _ _ _;rw[<-z];exact(fV.new w [.string g.nm,.int .i64 g.op,.string g.ver] _).alloc _
 have M:Hid (fV U (w.heap.size+1) [.string ⟨#[]⟩,.int .i64 0,.string ⟨#[]⟩]):=by
  show fV _ _ _;rw[<-z];have:=fV.new (w.alloc (.cells #[.string g.nm,.int .i64 g.op,.string g.ver] 78)) [.string ⟨#[]⟩,.int .i64 0,.string ⟨#[]⟩] 78;simpa using this
 obtain⟨k0,Z,k2⟩:=qj Y.cell;obtain⟨I,H,O⟩:=qj M.cell;have f0:=M.free 0 (by simp);have f1:=M.free 1 (by simp);have f2:=M.free 2 (by simp);unfold fP.val;cases hn:hH (bl g.nm)
 ·have E:Hid (gz a b g=(⟨⟨#[]⟩,0,⟨#[]⟩⟩,10)):=by show _=_;unfold gz;rw[if_pos hn]
  have K:=fH fun W=>nC g.nm W h1;rw[hn] at K;clear hn;go_in;go_wp2_with fail;refine mb (K _) ?_;rintro w' rfl;go_wp2_with fail;refine bodyPost_ret (v:=.tuple #[.agg #[.string ⟨#[]⟩,.int .i64 0,.string ⟨#[]⟩],.int .i64 10]) (by simp[results,results57,go_sem,I,H,O]) rfl ?_;exact⟨by rw[E.out];rfl,fO (fO (fO V (by omega) _) (by omega) _) (by omega) _⟩
 have K:=fH fun W=>nC g.nm W h1;rw[hn] at K;have F:=fH hn;clear hn;by_cases J:g.op=0
 ·have q:(g.op==0)=true:=by simp[J]
  have E:Hid (gz a b g=(⟨g.nm,0,⟨#[]⟩⟩,0)):=by show _=_;unfold gz;rw[if_neg (by rw[F.out];simp),if_pos J]
  clear J;go_in;go_wp2_with fail;refine mb (K _) ?_;rintro w' rfl;go_wp2_with fail;refine bodyPost_ret (v:=.tuple #[.agg #[.string g.nm,.int .i64 0,.string ⟨#[]⟩],.int .i64 0]) (by simp[results,results57,go_sem,I,H,O]) rfl ?_;exact⟨by rw[E.out];rfl,fO (fO (fO V (by omega) _) (by omega) _) (by omega) _⟩
 have q:(g.op==0)=false:=by simpa using J
 have HO:=fH J;clear J;go_in;go_wp2_with fail;clear z;refine mb (K _) ?_;rintro w' rfl;go_wp2_with fail;refine mb (qG a b g.ver _ (HG.below V) h2) ?_;rintro w1 D;have B1:=fH (fM V D);have K1:=fH (Y.below D);have X:=fH (M.below D);clear D k0 Z k2 I H O f0 f1 f2 Y M V;have k0:=K1.cell 0 _ rfl;have Z:=K1.cell 1 _ rfl;obtain⟨I,H,O⟩:=qj X.cell;have f0:=X.free 0 (by simp);have f1:=X.free 1 (by simp);have f2:=X.free 2 (by simp);obtain⟨⟨t,c⟩,ht⟩:∃ r,trans a b g.ver=r:=⟨_,rfl⟩
 have HT:=fH ht;rw[ht];clear ht;unfold ul;by_cases R:c=0
 ·have E:Hid (gz a b g=(⟨g.nm,g.op,⟨t.toArray⟩⟩,0)):=by
   show _=_;unfold gz;rw[if_neg (by rw[F.out];simp),if_neg HO.out,HT.out,if_neg (by simp[R])]
  have qc:(c != 0)=false:=by simp[R]
  clear R;go_wp2_with fail;refine bodyPost_ret (v:=.tuple #[.agg #[.string g.nm,.int .i64 g.op,.string ⟨t.toArray⟩],.int .i64 0]) (by simp[results,results57,go_sem,I,H,O]) rfl ?_;exact⟨by rw[E.out];rfl,fO (fO (fO B1 (by omega) _) (by omega) _) (by omega) _⟩
 ·have E:Hid (gz a b g=(⟨⟨#[]⟩,0,⟨#[]⟩⟩,11)):=by
   show _=_;unfold gz;rw[if_neg (by rw[F.out];simp),if_neg HO.out,HT.out,if_pos R]
  have qc:(c != 0)=true:=by simpa [bne] using R
  clear R;go_wp2_with fail;refine bodyPost_ret (v:=.tuple #[.agg #[.string ⟨#[]⟩,.int .i64 0,.string ⟨#[]⟩],.int .i64 11]) (by simp[results,results57,go_sem,I,H,O]) rfl ?_;exact⟨by rw[E.out];rfl,fO (fO (fO B1 (by omega) _) (by omega) _) (by omega) _⟩
structure gI where
 bar:Bool
 alts:List fP
def iz {α:Type}(f:α->Int):List α->Int
 | []=>0
 | x::r=>if f x≠0 then f x else iz f r
theorem gD {α:Type}{f:α->Int}:∀ {l:List α},iz f l=0↔∀ x∈l,f x=0
 | []=>by simp[iz]
 | a::r=>by
  unfold iz;have z:=gD (f:=f) (l:=r);by_cases h:f a=0
  ·rw[if_neg (by simpa using h),z];simp[h]
  ·rw[if_pos h];constructor
   ·intro e;exact absurd e h
   ·intro D;exact D a (by simp)
theorem qd {α:Type}{f:α->Int}{l:List α}{x:α}(z:l[k]?=some x)(D:∀ y∈l.take k,f y=0)(h:f x≠0):iz f l=f x:=by
 induction l generalizing k with
 | nil=>simp at z
 | cons a r ih=>
  unfold iz;cases k with
  | zero=>simp at z;subst z;rw[if_pos h]
  | succ k=>
   rw[if_neg (by simpa using D a (by simp))];exact ih (by simpa using z) (fun y F=>D y (by simp[F]))
theorem QU {α:Type}{f:α->Int}{a b:List α}(h:∀ x∈a,f x=0):iz f (a++b)=iz f b:=by
 induction a with
 | nil=>rfl
 | cons x r ih=>
  rw[List.cons_append]
  conv=>lhs;unfold iz
  rw[if_neg (by simpa using h x (by simp)),ih (fun y z=>h y (List.mem_cons_of_mem _ z))]
def kE (a:fP):Int:=if hH (bl a.nm)=false then 10 else if a.op<0\/5<a.op then 1 else if a.op=0 then (if a.ver.size=0 then 0 else 1) else if oj 1 a.ver≠0 then 11 else 0
def um (d:gI):Int:=if d.alts.length=0\/(d.bar=true/\1<d.alts.length) then 3 else iz kE d.alts
def gB (l:List gI):Nat:=(l.map fun d=>d.alts.length).sum
def ni (l:List gI):Int:=if 64<gB l then 4 else iz um l
def kD (a b:Int)(d:gI):gI:=⟨d.bar,d.alts.map fun g=>(gz a b g).1⟩
def qH (fmt:Int)(d:gI):Int:=if fmt=3/\1<d.alts.length then 11 else iz (fun g=>(gz 1 fmt g).2) d.alts
def wQ (fmt:Int)(l:List gI):Int:=if ¬ iY fmt then 9 else if ni l≠0 then ni l else iz (qH fmt) l
def sY (g:fP):iU:=⟨bl g.nm,[],g.op.toNat,bl g.ver,[]⟩
def js (g:fP):mQ:=.atom (bl g.nm) g.op.toNat (bl g.ver)
def vr (d:gI):mQ:=match d.alts with
 | []=>.node kT []
 | [g]=>js g
 | g::g2::r=>.node kT ((g::g2::r).map js)
def oz (d:gI):jP:=match d.alts with
 | []=>⟨d.bar,[],0,[]⟩
 | g::_=>⟨d.bar,bl g.nm,g.op.toNat,bl g.ver⟩
def iJ (bar:Bool)(l:List gI):List gI:=l.filter fun d=>d.bar==bar
def iL (fmt:Int)(bar:Bool)(l:List gI):List (LU):=
 if fmt=1 then (if iJ bar l=[] then [] else [jQ ((iJ bar l).map fun d=>d.alts.map sY)])
 else if fmt=2 then (iJ bar l).map fun d=>ij (vr d)
 else if bar=true\/l=[] then [] else [ko (l.map oz)]
def wD (fmt:Int)(bar:Bool)(l:List gI):List (LU):=iL fmt bar (l.map (kD 1 fmt))
def tC (t:iU):fP:=⟨gX t.name,t.op,gX t.ver⟩
def vL (bar:Bool)(L:List (List iU)):List gI×Int:=
 if L.any (fun g=>(bar&&decide (g.length≠1))||g.any fun t=>!t.qual.isEmpty || !t.archs.isEmpty)=true then ([],11) else (L.map fun g=>⟨bar,g.map tC⟩,0)
def Nv:mQ->Bool
 | .atom _ _ _=>true
 | .node _ _=>false
def Fi:mQ->fP
 | .atom nm op v=>⟨gX nm,op,gX v⟩
 | .node _ _=>⟨⟨#[]⟩,0,⟨#[]⟩⟩
def uo:mQ->List mQ
 | .atom nm op v=>[.atom nm op v]
 | .node o ks=>if o=lh then ks else [.node o ks]
def vM:mQ->List mQ
 | .atom nm op v=>[.atom nm op v]
 | .node o ks=>if o=kT then ks else [.node o ks]
def qI (bar:Bool)(d:mQ):List gI×Int:=
 if bar=true then (if Nv d=true then ([⟨true,[Fi d]⟩],0) else ([],11))
 else if (uo d).all (fun p=>(vM p).all Nv)=true then ((uo d).map fun p=>⟨false,(vM p).map Fi⟩,0) else ([],11)
def nH (x:jP):fP:=⟨gX x.name,x.op,gX x.ver⟩
def vN (bar:Bool)(L:List jP):List gI×Int:=
 if L.any (fun x=>decide (x.op=6)||(bar&&x.no))=true then ([],11) else (L.map fun x=>⟨bar||x.no,[nH x]⟩,0)
def ip (fmt:Int)(bar:Bool)(s:LU):List gI×Int:=
 if fmt=1 then (match jV s with | none=>([],-1) | some L=>vL bar L)
 else if fmt=2 then (match jt s with | none=>([],-1) | some d=>qI bar d)
 else (match jL s with | none=>([],-1) | some L=>vN bar L)
def qJ (fmt:Int)(l:List gI):Int:=iz (fun g=>(gz fmt 1 g).2) (l.flatMap gI.alts)
def kI (fmt:Int)(bar:Bool)(s:LU):Int:=if (ip fmt bar s).2≠0 then (ip fmt bar s).2 else qJ fmt (ip fmt bar s).1
def Fj (fmt:Int)(bar:Bool)(s:LU):List gI:=(ip fmt bar s).1.map (kD fmt 1)
def iX (fmt:Int)(bar:Bool)(ts:List (LU)):List gI:=ts.flatMap (Fj fmt bar)
def jc (fmt:Int)(bar:Bool)(ts:List (LU)):Int:=
 if ¬ iY fmt then 9 else if iz (kI fmt bar) ts≠0 then iz (kI fmt bar) ts else if 64<gB (iX fmt bar ts) then 4 else 0
def up (fmt:Int)(l:List gI):List gI:=if fmt=3 then l else iJ false l++iJ true l
structure fP.good (a:fP):Prop where
 name:hH (bl a.nm)=true
 op0:0<=a.op
 op5:a.op<=5
 none:a.op=0->a.ver=⟨#[]⟩
 ver:a.op≠0->oj 1 a.ver=0
theorem wE {a:fP}(h:kE a=0):a.good:=by
 unfold kE at h;split at h
 ·cases h
 ·rename_i F;split at h
  ·cases h
  ·rename_i H;split at h
   ·rename_i D;split at h
    ·rename_i z;exact⟨by simpa using F,by omega,by omega,fun _=>kG (by rw[hZ _ z];rfl),fun h=>absurd D h⟩
    ·cases h
   ·rename_i D;split at h
    ·cases h
    ·rename_i z;exact⟨by simpa using F,by omega,by omega,fun h=>absurd h D,fun _=>by simpa using z⟩
theorem VD (M:iY fmt){a:fP}(h:a.good)(F:(gz 1 fmt a).2=0):
  ∃ t:LU,(gz 1 fmt a).1=⟨a.nm,a.op,gX t⟩/\gz fmt 1 ⟨a.nm,a.op,gX t⟩=(a,0)/\(a.op=0->t=[])/\(a.op≠0->∃ c,iR fmt c=true/\t=gH fmt c):=by
 obtain⟨nm,op,ver⟩:=a;obtain⟨K,O,U,J,R⟩:=h;simp only at K O U J R;have D:¬ (hH (bl nm)=false):=by rw[K];simp
 by_cases z:op=0
 ·obtain rfl:=J z;subst z;refine⟨[],?_,?_,fun _=>rfl,fun h=>absurd rfl h⟩
  ·unfold gz;rw[if_neg D,if_pos rfl];rfl
  ·unfold gz;rw[if_neg D,if_pos rfl]
 ·unfold gz at F;rw[if_neg D,if_neg z] at F;by_cases ht:(trans 1 fmt ver).2≠0
  ·rw[if_pos ht] at F;cases F
  ·have H:(trans 1 fmt ver).2=0:=by simpa using ht
   obtain⟨c,X,I,_,_,_,_,V⟩:=QD M (v:=ver) (t:=(trans 1 fmt ver).1) (by rw[<-H]);refine⟨(trans 1 fmt ver).1,?_,?_,fun h=>absurd h z,fun _=>⟨c,X,I⟩⟩
   ·unfold gz;rw[if_neg D,if_neg z,if_neg ht];rfl
   ·unfold gz;simp only;rw[if_neg D,if_neg z,V,if_neg (by simp)];simp only;rw[show(⟨(bl ver).toArray⟩:BA)=ver from nF ver]
theorem wF {c:gQ}(h:iR fmt c=true):gH fmt c≠[]/\(∃ d r,gH fmt c=d::r/\gf d=true)/\∀ x∈gH fmt c,Mk x=false/\(x==32)=false/\(x==40)=false/\(x==41)=false:=by
 obtain⟨ok,_⟩:=rZ h;obtain⟨d,r,e,z⟩:=Vo (fmt:=fmt) ok;refine⟨by rw[e];simp,⟨d,r,e,z⟩,fun x D=>?_⟩;have key:(gf x||it x||x==46||x==126||x==95||x==58||x==45)=true:=by
  rcases Yl ok D with h | h | h | h | h | h
  ·rw[h];simp
  ·rw[h];simp
  ·rw[h];rfl
  ·rw[h];unfold vI;split<;>rfl
  ·rw[h];rfl
  ·rw[h];rfl
 have:=kf (fun x=>!(gf x||it x||x==46||x==126||x==95||x==58||x==45)||(!Mk x && !(x==32) && !(x==40) && !(x==41))) (by kernel_rfl) x;simp only[key,Bool.not_true,Bool.false_or,Bool.and_eq_true,Bool.not_eq_true'] at this;exact⟨this.1.1.1,this.1.1.2,this.1.2,this.2⟩
def lC (l:List Int):LV:=l.map fun x=>.int .i64 x
theorem Rs (A:OA)(c:Nat)(l:List Int)(w:World)(V:Rd w 1 A l.length (lC l))(hl:l.length<=1000000):Calls prog 261 #[.slice A l.length c] w fun e w'=>e=.returned (.int .i64 (iz id l))/\Bw w w':=by
 have U:=fH V;go_in;go_wp2;go_loop [8] (fun i=>∃ k:Nat,k<=l.length/\i=.int .i64 k/\Hid (∀ y∈l.take k,id y=0)) (fun i=>l.length-(intOf i).toNat)
 case atStart=>exact⟨0,z0,rfl,by simp[Hid]⟩
 case round=>
  obtain⟨k,Z,rfl,K⟩:=hrel;by_cases D:k<l.length
  ·obtain⟨x,M⟩:∃ x,l[k]?=some x:=⟨_,gG D⟩
   obtain⟨b,off,R,X⟩:=U.2 (by omega);have Y:=X k (.int .i64 x) (by unfold lC;rw[List.getElem?_map,M];rfl);have H:=fun W=>gi (T:=157) (E:=3) (sz:=1) (c:=c) underlying157 rfl sizeOf3 R D W;simp only[Nat.mul_one] at H;have O:=fH M;by_cases I:x≠0
   ·have q:(x != 0)=true:=by simpa [bne] using I
    have E:Hid (iz id l=x):=qd (f:=id) O K I;go_wp2;go_ret;exact⟨fT E.out.symm,bR⟩
   ·have F:x=0:=Decidable.not_not.1 I;have q:(x != 0)=false:=by rw[F];rfl
    have J:=fH F;go_wp2;go_round
    case rel=>exact⟨k+1,by omega,by go_num,fH (fun y z=>by
     rw[gC O.out] at z;rcases List.mem_append.1 z with z | z
     ·exact K.out y z
     ·rw[List.mem_singleton.1 z];exact J.out)⟩
    case measure=>simp[intOf];omega
  ·have E:Hid (iz id l=0):=gD.2 (fun y z=>K.out y (by rw[tL (by omega)];exact z));go_wp2;go_ret;exact⟨fT E.out.symm,bR⟩
def nM (a b:LU):Int:=iz id [Lib.compareInt (Lib.trimLeftB a 48).length (Lib.trimLeftB b 48).length,Lib.compareBytes (Lib.trimLeftB a 48) (Lib.trimLeftB b 48)]
theorem Li (w:World)(t:TypeId)(l:List Int):Rd (w.alloc (.cells (lC l).toArray t)) 1 (some ⟨w.heap.size,0,none⟩) l.length (lC l):=by
 refine⟨by unfold lC;simp,fun _=>⟨_,_,rfl,fun j u z=>?_⟩⟩;have:=(fV.new w (lC l) t).cell j u z;simpa using this
theorem Jn (a:BA)(w:World):Calls prog 279 #[.string a,.string ⟨#[48]⟩] w fun e w'=>e=.returned (.string (gX (Lib.trimLeftB (bl a) 48)))/\w=w':=
 (Tryz.strings_TrimLeft_one a 48 (by decide) w).mono fun e w' ⟨D,z⟩=>⟨D,z.symm⟩
theorem lZ (a b:BA)(w:World):Calls prog 262 #[.string a,.string b] w fun e w'=>e=.returned (.int .i64 (nM (bl a) (bl b)))/\Bw w w':=by
 have z:=fH fun W=>Jn a W;have D:=fH fun W=>Jn b W;obtain⟨x,M⟩:∃ x,Lib.trimLeftB (bl a) 48=x:=⟨_,rfl⟩
 obtain⟨y,K⟩:∃ y,Lib.trimLeftB (bl b) 48=y:=⟨_,rfl⟩
 rw[M] at z;rw[K] at D;have E:Hid (nM (bl a) (bl b)=iz id [Lib.compareInt (gX x).size (gX y).size,Lib.compareBytes x y]):=by
  show _=_;unfold nM;rw[M,K,iB,iB]
 have F:=fH fun W=>Tryz.cmp_Compare_int (gX x).size (gX y).size W;have H:Hid (∀ W,Calls prog 276 #[.string (gX x),.string (gX y)] W fun e w'=>e=.returned (.int .i64 (Lib.compareBytes x y))/\w'=W):=fun W=>
  (Tryz.strings_Compare (gX x) (gX y) W).mono fun e w' ⟨Z,U⟩=>⟨by rw[Z,show(gX x).data.toList=x from iS x,show(gX y).data.toList=y from iS y],U⟩
 generalize gX x=X at *;generalize gX y=Y at *;generalize aa:Lib.compareInt (X.size:Int) (Y.size:Int)=c1 at *;generalize V:Lib.compareBytes x y=c2 at *;have J:=fH fun (_:Unit)=>Rs (some ⟨w.heap.size,0,none⟩) 2 [c1,c2] (w.alloc (.cells (lC [c1,c2]).toArray 3)) (Li w _ _) (by simp);have I:Hid (Bw w (w.alloc (.cells (lC [c1,c2]).toArray 3))):=bR.alloc lr _;have R:lC [c1,c2]=[.int .i64 c1,.int .i64 c2]:=rfl;rw[R] at J I;go_in;go_wp2_with fail;refine mb (z _) ?_;rintro w' rfl;go_wp2_with fail;refine mb (D _) ?_;rintro w' rfl;go_wp2_with fail;refine mb (F _) ?_;rintro w' rfl;go_wp2_with fail;refine mb (H _) ?_;rintro w' rfl;go_wp2_with fail;refine mb (J ()) ?_;rintro w' O;have B:=fH (fM I O);go_wp2;go_ret;exact⟨fT E.out.symm,B⟩
def cI (a b:Nat):Int:=if a<b then -1 else if b<a then 1 else 0
theorem zS (a b : Nat) : Lib.compareInt (a : Int) (b : Int) = cI a b := by
  unfold Lib.compareInt cI;rcases Nat.lt_trichotomy a b with h | h | h
  · rw [if_pos (by omega), if_pos h]
  · subst h; simp
  · rw [if_neg (by omega), if_pos (by omega), if_neg (by omega), if_pos h]
theorem aaS :cI a b=0↔a=b:=by
 unfold cI;rcases Nat.lt_trichotomy a b with h | h | h
 ·rw[if_pos h];constructor
  ·intro e;cases e
  ·intro e;omega
 ·subst h;simp
 ·rw[if_neg (by omega),if_pos h];constructor
  ·intro e;cases e
  ·intro e;omega
theorem yl (a:Nat):cI a a=0:=aaS.2 rfl
theorem Jo:∀ x y:LU,Lib.compareBytes y x=- Lib.compareBytes x y
 | [],[]=>rfl
 | [],_::_=>rfl
 | _::_,[]=>rfl
 | a::r,b::s=>by
  unfold Lib.compareBytes;by_cases z:a<b
  ·have D:¬ b<a:=fun h=>UInt8.lt_irrefl a (UInt8.lt_trans z h);rw[if_neg D,if_pos z,if_pos z];rfl
  ·by_cases D:b<a
   ·rw[if_pos D,if_neg z,if_pos D]
   ·rw[if_neg D,if_neg z,if_neg z,if_neg D];exact Jo r s
theorem zT:∀ x:LU,Lib.compareBytes x x=0
 | []=>rfl
 | a::r=>by
  unfold Lib.compareBytes;rw[if_neg (UInt8.lt_irrefl a),if_neg (UInt8.lt_irrefl a)];exact zT r
theorem Jp:∀ {x y:LU}(u v:LU),x.length=y.length->Lib.compareBytes x y=-1->Lib.compareBytes (x++u) (y++v)=-1
 | [],[],u,v,_,h=>by cases h
 | [],_::_,u,v,hl,_=>by cases hl
 | _::_,[],u,v,hl,_=>by cases hl
 | a::r,b::s,u,v,hl,h=>by
  unfold Lib.compareBytes at h;show Lib.compareBytes (a::(r++u)) (b::(s++v))=-1;unfold Lib.compareBytes;by_cases z:a<b
  ·rw[if_pos z]
  ·rw[if_neg z] at h |-;by_cases D:b<a
   ·rw[if_pos D] at h;cases h
   ·rw[if_neg D] at h |-;exact Jp u v (by simpa using hl) h
theorem Oc:∀ (x u v:LU),Lib.compareBytes (x++u) (x++v)=Lib.compareBytes u v
 | [],u,v=>rfl
 | a::r,u,v=>by
  show Lib.compareBytes (a::(r++u)) (a::(r++v))=_;rw[Lib.compareBytes,if_neg (UInt8.lt_irrefl a),if_neg (UInt8.lt_irrefl a)];exact Oc r u v
theorem Y3 (z:a<10)(D:b<10)(h:a<b):(UInt8.ofNat (48+a))<UInt8.ofNat (48+b):=by
 rw[UInt8.lt_iff_toNat_lt,sS z,sS D];omega
theorem aaT:∀ (b a:Nat),a<b->(fU a).length<(fU b).length\/((fU a).length=(fU b).length/\Lib.compareBytes (fU a) (fU b)=-1):=by
 intro b
 induction b using Nat.strongRecOn with
 | ind b ih=>
  intro a D;by_cases z:b<10
  ·rw[jj z,jj (by omega)];refine .inr ⟨rfl,?_⟩;unfold Lib.compareBytes;rw[if_pos (Y3 (by omega) z D)]
  ·by_cases F:a<10
   ·rw[od z,jj F];have:=oh (b / 10);left;simp;omega
   ·rw[od z,od F];by_cases I:a / 10<b / 10
    ·rcases ih (b / 10) (by omega) (a / 10) I with h | ⟨H,J⟩
     ·left;simp;omega
     ·exact .inr ⟨by simp[H],Jp _ _ H J⟩
    ·have e:a / 10=b / 10:=by omega
     rw[e];refine .inr ⟨by simp,?_⟩;rw[Oc];unfold Lib.compareBytes;rw[if_pos (Y3 (by omega) (by omega) (by omega))]
theorem FM (n:Nat):Lib.trimLeftB (fU n) 48=if n=0 then [] else fU n:=by
 by_cases h:n=0
 ·subst h;rw[if_pos rfl,jj (by omega)];rfl
 ·rw[if_neg h];have D:(fU n).head?≠some 48:=by
   by_cases z:n<10
   ·rw[jj z];simp only[List.head?_cons,ne_eq,Option.some.injEq];intro e;have:=congrArg UInt8.toNat e;rw[sS z] at this;have F:(48:UInt8).toNat=48:=rfl;omega
   ·exact zr n (by omega)
  cases e:fU n with
  | nil=>exact absurd e (oe n)
  | cons d r=>
   rw[e] at D;have:(d==48)=false:=by
    rw[bF];intro h;rw[h] at D;exact D rfl
   unfold Lib.trimLeftB;rw[List.dropWhile_cons,this];rfl
theorem zU (h:a<b):cI a b=-1:=by unfold cI;rw[if_pos h]
theorem Lj (h:b<a):cI a b=1:=by unfold cI;rw[if_neg (by omega),if_pos h]
theorem qO (x y:Int):iz id [x,y]=if x≠0 then x else y:=by
 unfold iz iz iz;by_cases h:x=0
 ·subst h;simp;by_cases z:y=0
  ·subst z;simp
  ·simp[z]
 ·simp[h]
theorem Ta (h:a<b):nM (fU a) (fU b)=-1:=by
 unfold nM;rw[FM,FM,if_neg (by omega:¬ b=0),qO,zS];by_cases D:a=0
 ·rw[if_pos D];have:=oh b;rw[zU (by simpa using this),if_pos (by decide)]
 ·rw[if_neg D];rcases aaT b a h with z | ⟨z,F⟩
  ·rw[zU z,if_pos (by decide)]
  ·rw[z,yl,if_neg (by simp),F]
theorem V9 (x y:LU):nM y x=- nM x y:=by
 unfold nM;rw[qO,qO,zS,zS,Jo];generalize (Lib.trimLeftB x 48).length=p;generalize (Lib.trimLeftB y 48).length=q;rcases Nat.lt_trichotomy p q with h | h | h
 ·rw[zU h,Lj h];rfl
 ·subst h;rw[yl];rfl
 ·rw[Lj h,zU h];rfl
theorem ym (a b:Nat):nM (fU a) (fU b)=cI a b:=by
 rcases Nat.lt_trichotomy a b with h | h | h
 ·rw[Ta h,zU h]
 ·subst h;rw[yl];unfold nM;rw[qO,zS,yl,zT];rfl
 ·rw[V9,Ta h,Lj h];rfl
theorem Tb (fmt:Int)(c d:gQ)(z:fmt=3->c.ep=0/\d.ep=0):nM (Cr fmt c) (Cr fmt d)=cI c.ep d.ep:=by
 have key:∀ x:gQ,(fmt=3->x.ep=0)->Lib.trimLeftB (Cr fmt x) 48=Lib.trimLeftB (fU x.ep) 48:=by
  intro x F;unfold Cr;by_cases h:fmt=3\/x.ep=0
  ·rw[if_pos h];have D:x.ep=0:=h.elim F id;rw[D,FM,if_pos rfl];rfl
  ·rw[if_neg h]
 have:nM (Cr fmt c) (Cr fmt d)=nM (fU c.ep) (fU d.ep):=by
  unfold nM;rw[key c (fun h=>(z h).1),key d (fun h=>(z h).2)]
 rw[this,ym]
def th (w:LU)(n:Nat)(v:LU)(m:Nat):Int:=
 if w=[] then (if v=[] then 0 else 1) else if v=[] then -1 else if Lib.compareBytes w v≠0 then Lib.compareBytes w v else cI n m
def oZ (c d:gQ):Int:=match c.lt,d.lt with
 | [],[]=>th c.pre c.pnum d.pre d.pnum
 | [],_::_=>-1
 | _::_,[]=>1
 | a::_,b::_=>if a<b then -1 else if b<a then 1 else th c.pre c.pnum d.pre d.pnum
def ot:List Nat->List Nat->Int->Int
 | n::ns,m::ms,t=>if cI n m≠0 then cI n m else match ns,ms with
  | [],[]=>t
  | [],_::_=>-1
  | _::_,[]=>1
  | n'::ns,m'::ms=>ot (n'::ns) (m'::ms) t
 | _,_,_=>0
def ti (c d:gQ):Int:=iz id [cI c.ep d.ep,ot c.nums d.nums (oZ c d),cI c.rev d.rev]
def Lk (c:UInt8):Bool:=!ku c && !gf c&&c != 126&&c != 94
def yN (l:LU):LU:=l.drop (fS Lk l)
def tH (l:LU)(c:UInt8):Bool:=Lib.hasPrefix l [c]
def uv:Bool->UInt8->Bool
 | true=>gf
 | false=>ku
def WU (d:Bool)(a b:LU):Int:=if d=true then nM a b else Lib.compareBytes a b
def Od (l:LU):Bool:=gf (l.headD 0)
def ou (x y:LU):(LU×LU) ⊕ Int:=
 if tH x 126=true/\tH y 126=true then .inl (x.drop 1,y.drop 1)
 else if tH x 126=true then .inr (-1) else if tH y 126=true then .inr 1
 else if tH x 94=true/\tH y 94=true then .inl (x.drop 1,y.drop 1)
 else if tH x 94=true then .inr (if y.length=0 then 1 else -1)
 else if tH y 94=true then .inr (if x.length=0 then -1 else 1)
 else if x.length=0\/y.length=0 then .inr (Lib.compareInt x.length y.length)
 else if fS (uv (Od x)) x=0 then .inr 0
 else if fS (uv (Od x)) y=0 then .inr (if Od x=true then 1 else -1)
 else if WU (Od x) (x.take (fS (uv (Od x)) x)) (y.take (fS (uv (Od x)) y))≠0 then .inr (WU (Od x) (x.take (fS (uv (Od x)) x)) (y.take (fS (uv (Od x)) y)))
 else .inl (x.drop (fS (uv (Od x)) x),y.drop (fS (uv (Od x)) y))
theorem vd (h:tH l c=true):1<=l.length:=by
 cases l with
 | nil=>simp[tH,Lib.hasPrefix] at h
 | cons a r=>simp
theorem aaU {a b:LU}(h:ou x y=.inl (a,b)):a.length<x.length:=by
 unfold ou at h
 repeat' split at h
 all_goals try (cases h;done)
 all_goals injection h with h;injection h with z D;subst z
 ·rename_i h;have:=vd h.1;simp;omega
 ·rename_i h;have:=vd h.1;simp;omega
 ·rename_i z D H F;rw[List.length_drop];have:=jI (uv (Od x)) x;omega
def pF (x y:LU):(LU×LU) ⊕ Int:=ou (yN x) (yN y)
theorem aaV {p:LU×LU}(h:pF x y=.inl p):p.1.length<x.length:=by
 obtain⟨a,b⟩:=p;have z:=aaU h;have D:(yN x).length<=x.length:=by unfold yN;simp
 simp only;omega
def lD (x y:LU):Int:=match h:pF x y with
 | .inr c=>c
 | .inl p=>lD p.1 p.2
termination_by x.length
decreasing_by exact aaV h
theorem ii {c:Int}(h:pF x y=.inr c):lD x y=c:=by
 rw[lD];split
 ·rename_i z;rw[h] at z;injection z with z;exact z.symm
 ·rename_i z;rw[h] at z;cases z
theorem mT {a b:LU}(h:pF x y=.inl (a,b)):lD x y=lD a b:=by
 rw[lD];split
 ·rename_i z;rw[h] at z;cases z
 ·rename_i z;rw[h] at z;injection z with z;rw[<-z]
theorem Y4 (h:yN l=c::r):Lk c=false:=by
 unfold yN at h;have z:fS Lk l<l.length:=by
  have:=congrArg List.length h;simp at this;omega
 obtain⟨a,F,e,D⟩:=rL l z;rw[h] at e;injection e with e1 e2;rw[e1];exact D
theorem aaW (h:(yN l).length≠0)(F:tH (yN l) 126=false)(D:tH (yN l) 94=false):fS (uv (Od (yN l))) (yN l)≠0:=by
 cases hx:yN l with
 | nil=>rw[hx] at h;exact absurd rfl h
 | cons c r=>
  have z:=Y4 hx;rw[hx] at F D;have H:(c != 126)=true:=by simpa [tH,Lib.hasPrefix,List.isPrefixOf,bne,BEq.comm] using F
  have I:(c != 94)=true:=by simpa [tH,Lib.hasPrefix,List.isPrefixOf,bne,BEq.comm] using D
  unfold Lk at z;rw[H,I] at z;simp only[Bool.and_true] at z;have e:Od (c::r)=gf c:=rfl;rw[e];cases hd:gf c
  ·rw[hd] at z;have:ku c=true:=by simpa using z
   show fS ku (c::r)≠0;rw[kK,if_pos this];omega
  ·show fS gf (c::r)≠0;rw[kK,if_pos hd];omega
theorem FO (c:UInt8):((c.toNat:Int) != 126)=(c != 126):=by
 have:=kf (fun x=>((x.toNat:Int) != 126)==(x != 126)) (by kernel_rfl) c;simpa using this
theorem Hs (c:UInt8):((c.toNat:Int) != 94)=(c != 94):=by
 have:=kf (fun x=>((x.toNat:Int) != 94)==(x != 94)) (by kernel_rfl) c;simpa using this
theorem Ht (c:UInt8)(w:World):Calls prog 285 #[.int .u8 c.toNat] w fun e w'=>e=.returned (.bool (Lk c))/\w=w':=by
 have E:Hid (Lk c=(!ku c && !gf c&&c != 126&&c != 94)):=rfl;obtain⟨I,H⟩:∃ b,(c != 126)=b:=⟨_,rfl⟩
 obtain⟨M,D⟩:∃ b,(c != 94)=b:=⟨_,rfl⟩
 have U:((c.toNat:Int) != 126)=I:=by
  rw[<-H];exact FO c
 have V:((c.toNat:Int) != 94)=M:=by
  rw[<-D];exact Hs c
 rw[H,D] at E;obtain⟨R,K⟩:∃ b,ku c=b:=⟨_,rfl⟩
 obtain⟨O,J⟩:∃ b,gf c=b:=⟨_,rfl⟩
 have z:=fH fun W=>kw c W;have F:=fH fun W=>je c W;rw[K] at z E;rw[J] at F E;clear H D K J;cases R
 ·cases O
  ·cases I
   all_goals
    go_in;go_wp2_with fail;refine mb (z _) ?_;rintro w' rfl;go_wp2_with fail;refine mb (F _) ?_;rintro w' rfl;go_wp2;go_ret;exact⟨fJ (by rw[E.out];simp),rfl⟩
  ·go_in;go_wp2_with fail;refine mb (z _) ?_;rintro w' rfl;go_wp2_with fail;refine mb (F _) ?_;rintro w' rfl;go_wp2;go_ret;exact⟨fJ (by rw[E.out];simp),rfl⟩
 ·go_in;go_wp2_with fail;refine mb (z _) ?_;rintro w' rfl;go_wp2;go_ret;exact⟨fJ (by rw[E.out];simp),rfl⟩
theorem Y5 (s:BA)(w:World)(z:s.size<=9223372036854775807):Calls prog 217 #[.string s,.func (.func 285) #[] #[]] w fun e w'=>e=.returned (.int .i64 (fS Lk (bl s)))/\w=w':=
 qV _ Lk s w z Tryz.call285 (fH fun c=>Ht c w)
theorem FP (s:BA)(w:World)(z:s.size<=9223372036854775807):Calls prog 217 #[.string s,.func (.func 264) #[] #[]] w fun e w'=>e=.returned (.int .i64 (fS ku (bl s)))/\w=w':=
 qV _ ku s w z Tryz.call264 (fH fun c=>kw c w)
def skS (s:BA):BA:=s.extract (fS Lk (bl s)) s.size
theorem Y6 (s:BA):bl (skS s)=yN (bl s):=by unfold skS yN;rw[ik]
theorem Y7 (s:BA):(skS s).size<=s.size:=by unfold skS;rw[iP];omega
theorem yo (s:BA)(w:World)(z:s.size<=9223372036854775807):Calls prog 278 #[.string s] w fun e w'=>e=.returned (.string (skS s))/\w=w':=by
 unfold skS;have D:=fH fun W=>Y5 s W z;have F:fS Lk (bl s)<=s.size:=by have:=jI Lk (bl s);rwa [fI] at this
 generalize fS Lk (bl s)=n at *;go_in;go_wp2_with fail;refine mb (D _) ?_;rintro w' rfl;go_wp2;go_ret;exact⟨rfl,rfl⟩
def tD:Value->Nat
 | .string s=>s.size
 | _=>0
theorem qP (x0 y0:BA)(w:World)(al:x0.size<=1000000)(am:y0.size<=1000000):Calls prog 260 #[.string x0,.string y0] w fun e w'=>e=.returned (.int .i64 (lD (bl x0) (bl y0)))/\Bw w w':=by
 obtain⟨R,hR⟩:∃ R,lD (bl x0) (bl y0)=R:=⟨_,rfl⟩
 rw[hR];have aj:Hid (lD (bl x0) (bl y0)=R):=hR;clear hR;go_in;go_wp2;go_loopw [0,1] (fun s0 s1 wr=>∃ x y:BA,s0=.string x/\s1=.string y/\x.size<=1000000/\y.size<=1000000/\Hid (lD (bl x) (bl y)=R)/\Hid (Bw w wr)) (fun s0 _ _=>tD s0)
 case atStart=>exact⟨x0,y0,rfl,rfl,al,am,aj,bR⟩
 case round=>
  clear aj al am;obtain⟨x,y,rfl,rfl,hx,hy,K,J⟩:=hrel;have S1:=fH fun W=>yo x W (by omega);have S2:=fH fun W=>yo y W (by omega);have ap:=Y7 x;have ar:=Y7 y;obtain⟨X,hX⟩:∃ X,skS x=X:=⟨_,rfl⟩
  obtain⟨Y,hY⟩:∃ Y,skS y=Y:=⟨_,rfl⟩
  have BX:Hid (bl X=yN (bl x)):=by show _=_;rw[<-hX,Y6]
  have BY:Hid (bl Y=yN (bl y)):=by show _=_;rw[<-hY,Y6]
  rw[hX] at S1 ap;rw[hY] at S2 ar;clear hX hY;have I:Hid (pF (bl x) (bl y)=ou (bl X) (bl Y)):=by show _=_;unfold pF;rw[BX.out,BY.out]
  obtain⟨tx,af⟩:∃ b,tH (bl X) 126=b:=⟨_,rfl⟩
  obtain⟨ty,ag⟩:∃ b,tH (bl Y) 126=b:=⟨_,rfl⟩
  obtain⟨cx,ae⟩:∃ b,tH (bl X) 94=b:=⟨_,rfl⟩
  obtain⟨cy,ah⟩:∃ b,tH (bl Y) 94=b:=⟨_,rfl⟩
  have P1:=fH fun W=>mN X ⟨#[126]⟩ tx W af;have P2:=fH fun W=>mN Y ⟨#[126]⟩ ty W ag;have P3:=fH fun W=>mN X ⟨#[94]⟩ cx W ae;have P4:=fH fun W=>mN Y ⟨#[94]⟩ cy W ah;have O:=fH af;have V:=fH ag;have CX:=fH ae;have CY:=fH ah;clear af ag ae ah;go_wp2_with fail;refine mb (S1 _) ?_;rintro w' rfl;go_wp2_with fail;refine mb (S2 _) ?_;rintro w' rfl;go_wp2_with fail;refine mb (P1 _) ?_;rintro w' rfl;go_wp2_with fail;refine mb (P2 _) ?_;rintro w' rfl;go_wp2_with fail;refine mb (P3 _) ?_;rintro w' rfl;go_wp2_with fail;refine mb (P4 _) ?_;rintro w' rfl;clear S1 S2 P1 P2 P3 P4;cases tx
  rotate_left
  ·cases ty
   ·
    have E:Hid (R=-1):=by show _=_;rw[<-K.out,ii (c:=-1) (by rw[I.out];unfold ou;rw[O.out,V.out];simp)]
    go_wp2;go_ret;exact⟨fT E.out.symm,J⟩
   ·
    have z1:1<=X.size:=by have:=vd O.out;rwa [fI] at this
    have z2:1<=Y.size:=by have:=vd V.out;rwa [fI] at this
    have HN:Hid (lD (bl (X.extract 1 X.size)) (bl (Y.extract 1 Y.size))=R):=by
     show _=_;rw[<-K.out,mT (x:=bl x) (y:=bl y) (a:=(bl X).drop 1) (b:=(bl Y).drop 1) (by rw[I.out];unfold ou;rw[O.out,V.out];simp),ik,ik]
    have e1:(X.extract 1 X.size).size=X.size-1:=iP X 1;have e2:(Y.extract 1 Y.size).size=Y.size-1:=iP Y 1;have E1:=fH e1;have E2:=fH e2;clear e1 e2;go_wp2;go_quiet (fail);go_wp2;go_roundw
    case rel=>exact⟨_,_,rfl,rfl,by rw[E1.out];omega,by rw[E2.out];omega,HN,gh J _⟩
    case measure=>simp only[tD];have:=E1.out;simp at this |-;omega
  cases ty
  rotate_left
  ·
   have E:Hid (R=1):=by show _=_;rw[<-K.out,ii (c:=1) (by rw[I.out];unfold ou;rw[O.out,V.out];simp)]
   go_wp2;go_ret;exact⟨fT E.out.symm,J⟩
  cases cx
  rotate_left
  ·cases cy
   ·
    by_cases H:Y.size=0
    ·
     have U:Y.toList=[]:=by rw[fK,hZ Y H]
     have E:Hid (R=1):=by show _=_;rw[<-K.out,ii (c:=1) (by rw[I.out];unfold ou;rw[O.out,V.out,CX.out,CY.out];simp[H,fI])]
     go_wp2;go_ret;exact⟨fT E.out.symm,J⟩
    ·
     have U:Y.toList.isEmpty=false:=by rw[fK,gu];simpa using H
     have aq:¬ Y.toList=[]:=by intro h;rw[h] at U;simp at U
     have E:Hid (R=-1):=by show _=_;rw[<-K.out,ii (c:=-1) (by rw[I.out];unfold ou;rw[O.out,V.out,CX.out,CY.out];simp;intro h;apply H;rw[<-fI,h];rfl)]
     go_wp2;go_ret;exact⟨fT E.out.symm,J⟩
   ·
    have z1:1<=X.size:=by have:=vd CX.out;rwa [fI] at this
    have z2:1<=Y.size:=by have:=vd CY.out;rwa [fI] at this
    have HN:Hid (lD (bl (X.extract 1 X.size)) (bl (Y.extract 1 Y.size))=R):=by
     show _=_;rw[<-K.out,mT (x:=bl x) (y:=bl y) (a:=(bl X).drop 1) (b:=(bl Y).drop 1) (by rw[I.out];unfold ou;rw[O.out,V.out,CX.out,CY.out];simp),ik,ik]
    have e1:(X.extract 1 X.size).size=X.size-1:=iP X 1;have e2:(Y.extract 1 Y.size).size=Y.size-1:=iP Y 1;have E1:=fH e1;have E2:=fH e2;clear e1 e2;go_wp2;go_quiet (fail);go_wp2;go_roundw
    case rel=>exact⟨_,_,rfl,rfl,by rw[E1.out];omega,by rw[E2.out];omega,HN,gh J _⟩
    case measure=>simp only[tD];have:=E1.out;simp at this |-;omega
  cases cy
  rotate_left
  ·
   by_cases F:X.size=0
   ·
    have U:X.toList=[]:=by rw[fK,hZ X F]
    have E:Hid (R=-1):=by show _=_;rw[<-K.out,ii (c:=-1) (by rw[I.out];unfold ou;rw[O.out,V.out,CX.out,CY.out];simp[F,fI])]
    go_wp2;go_ret;exact⟨fT E.out.symm,J⟩
   ·
    have U:X.toList.isEmpty=false:=by rw[fK,gu];simpa using F
    have aq:¬ X.toList=[]:=by intro h;rw[h] at U;simp at U
    have E:Hid (R=1):=by show _=_;rw[<-K.out,ii (c:=1) (by rw[I.out];unfold ou;rw[O.out,V.out,CX.out,CY.out];simp;intro h;apply F;rw[<-fI,h];rfl)]
    go_wp2;go_ret;exact⟨fT E.out.symm,J⟩
  by_cases F:X.size=0
  ·
   have U:X.toList=[]:=by rw[fK,hZ X F]
   have E:Hid (R=Lib.compareInt X.size Y.size):=by
    show _=_;rw[<-K.out,ii (c:=Lib.compareInt X.size Y.size) (by rw[I.out];unfold ou;rw[O.out,V.out,CX.out,CY.out,fI,fI];rw[if_neg (by simp),if_neg (by simp),if_neg (by simp),if_neg (by simp),if_neg (by simp),if_neg (by simp),if_pos (.inl F)])]
   have HC:=fH fun W=>Tryz.cmp_Compare_int X.size Y.size W;clear F;generalize Lib.compareInt (X.size:Int) (Y.size:Int)=M at *;go_wp2_with fail;refine mb (HC _) ?_;rintro w' rfl;go_wp2;go_ret;exact⟨fT E.out.symm,J⟩
  have ao:X.toList.isEmpty=false:=by rw[fK,gu];simpa using F
  have au:¬ X.toList=[]:=by intro h;rw[h] at ao;simp at ao
  by_cases H:Y.size=0
  ·
   have U:Y.toList=[]:=by rw[fK,hZ Y H]
   have E:Hid (R=Lib.compareInt X.size Y.size):=by
    show _=_;rw[<-K.out,ii (c:=Lib.compareInt X.size Y.size) (by rw[I.out];unfold ou;rw[O.out,V.out,CX.out,CY.out,fI,fI];rw[if_neg (by simp),if_neg (by simp),if_neg (by simp),if_neg (by simp),if_neg (by simp),if_neg (by simp),if_pos (.inr H)])]
   have HC:=fH fun W=>Tryz.cmp_Compare_int X.size Y.size W;clear H;generalize Lib.compareInt (X.size:Int) (Y.size:Int)=M at *;go_wp2_with fail;refine mb (HC _) ?_;rintro w' rfl;go_wp2;go_ret;exact⟨fT E.out.symm,J⟩
  have an:Y.toList.isEmpty=false:=by rw[fK,gu];simpa using H
  have av:¬ Y.toList=[]:=by intro h;rw[h] at an;simp at an
  have ak:0<X.size:=by omega
  have DG:=fH fun W=>je X[0] W;obtain⟨d,hd⟩:∃ d,gf X[0]=d:=⟨_,rfl⟩
  rw[hd] at DG;have D1:Hid (Od (bl X)=d):=by
   show _=_;rw[<-hd];unfold Od;have:bl X=X[0]::(bl X).drop 1:=by
    have hl:0<(bl X).length:=by rw[fI];exact ak
    have:=List.drop_eq_getElem_cons hl;rw[List.drop_zero,oE X 0 ak] at this;exact this
   rw[this];rfl
  have NX:Hid (fS (uv d) (bl X)≠0):=by
   have:=aaW (l:=bl x) (by rw[<-BX.out,fI];exact F) (by rw[<-BX.out];exact O.out) (by rw[<-BX.out];exact CX.out);rw[<-BX.out,D1.out] at this;exact this
  have KK:Hid (ou (bl X) (bl Y)=if fS (uv d) (bl Y)=0 then .inr (if d=true then 1 else -1)
   else if WU d ((bl X).take (fS (uv d) (bl X))) ((bl Y).take (fS (uv d) (bl Y)))≠0 then .inr (WU d ((bl X).take (fS (uv d) (bl X))) ((bl Y).take (fS (uv d) (bl Y))))
   else .inl ((bl X).drop (fS (uv d) (bl X)),(bl Y).drop (fS (uv d) (bl Y)))):=by
   show _=_;unfold ou;rw[O.out,V.out,CX.out,CY.out,fI,fI,D1.out,if_neg (by simp),if_neg (by simp),if_neg (by simp),if_neg (by simp),if_neg (by simp),if_neg (by simp),if_neg (fun h=>h.elim F H),if_neg NX.out]
  have hn:=jI (uv d) (bl X);have hm:=jI (uv d) (bl Y);rw[fI] at hn hm;obtain⟨n,ad⟩:∃ n,fS (uv d) (bl X)=n:=⟨_,rfl⟩
  obtain⟨m,ac⟩:∃ m,fS (uv d) (bl Y)=m:=⟨_,rfl⟩
  have R1:Hid (∀ W,Calls prog 217 #[.string X,.func (.func (if d=true then 214 else 264)) #[] #[]] W fun e w'=>e=.returned (.int .i64 n)/\W=w'):=by
   intro W;rw[<-ad];cases d
   ·exact FP X W (by omega)
   ·exact pX X W (by omega)
  have R2:Hid (∀ W,Calls prog 217 #[.string Y,.func (.func (if d=true then 214 else 264)) #[] #[]] W fun e w'=>e=.returned (.int .i64 m)/\W=w'):=by
   intro W;rw[<-ac];cases d
   ·exact FP Y W (by omega)
   ·exact pX Y W (by omega)
  rw[ad,ac] at KK;rw[ad] at hn NX;rw[ac] at hm;have ax:0<n:=by have:=NX.out;omega
  obtain⟨M,ai⟩:∃ M,WU d ((bl X).take n) ((bl Y).take m)=M:=⟨_,rfl⟩
  rw[ai] at KK;have AG:Hid (∀ W,Calls prog (if d=true then 262 else 276) #[.string (X.extract 0 n),.string (Y.extract 0 m)] W fun e w'=>e=.returned (.int .i64 M)/\Bw W w'):=by
   intro W;rw[<-ai];unfold WU;cases d
   ·exact(Tryz.strings_Compare (X.extract 0 n) (Y.extract 0 m) W).mono fun e w' ⟨U,hw⟩=>⟨by rw[U,<-jp X n,<-jp Y m];rfl,by rw[hw];exact bR⟩
   ·refine(lZ (X.extract 0 n) (Y.extract 0 m) W).mono fun e w' ⟨U,hw⟩=>⟨by rw[U,jp,jp];rfl,hw⟩
  have e1:Hid ((X.extract n X.size).size=X.size-n):=iP X n;have e2:Hid ((Y.extract m Y.size).size=Y.size-m):=iP Y m;clear hd ad ac ai O V CX CY NX D1;cases d
  ·
   simp only[↓reduceIte,Bool.false_eq_true] at R1 R2 AG KK;go_wp2_with fail;refine mb (DG _) ?_;rintro w' rfl;go_wp2_with fail;refine mb (R1 _) ?_;rintro w' rfl;go_wp2_with fail;refine mb (R2 _) ?_;rintro w' rfl;by_cases z:m=0
   ·
    have qm:((m:Int)==0)=true:=by simp[z]
    have E:Hid (R=-1):=by show _=_;rw[<-K.out,ii (c:=-1) (by rw[I.out,KK.out,if_pos z])]
    clear z;go_wp2;go_ret;exact⟨fT E.out.symm,J⟩
   have qm:((m:Int)==0)=false:=by simpa using z
   have ab:=fH z;clear z;go_wp2_with fail;have Dr:Bw wr wr.drew:=bR.drew;go_still_tail 7,(by kernel_rfl)
   change wpList _ _ _ _ _ wr.drew
   have Z:=fH (fM J Dr);clear Dr;generalize wr.drew=w2 at *;go_wp2_with fail;refine mb (AG _) ?_;rintro w3 aa;have B3:=fH (fM Z aa);clear aa Z J;by_cases D:M≠0
   ·
    have qc:(M != 0)=true:=by simpa [bne] using D
    have E:Hid (R=M):=by show _=_;rw[<-K.out,ii (c:=M) (by rw[I.out,KK.out,if_neg ab.out,if_pos D])]
    clear D;go_wp2;go_ret;exact⟨fT E.out.symm,B3⟩
   have qc:(M != 0)=false:=by rw[Decidable.not_not.1 D];rfl
   have HN:Hid (lD (bl (X.extract n X.size)) (bl (Y.extract m Y.size))=R):=by
    show _=_;rw[<-K.out,mT (x:=bl x) (y:=bl y) (a:=(bl X).drop n) (b:=(bl Y).drop m) (by rw[I.out,KK.out,if_neg ab.out,if_neg D]),ik,ik]
   clear D;go_wp2;go_quiet (fail);go_wp2;go_roundw
   case rel=>exact⟨_,_,rfl,rfl,by rw[e1.out];omega,by rw[e2.out];omega,HN,gh B3 _⟩
   case measure=>simp only[tD];have:=e1.out;simp at this |-;omega
  ·
   simp only[↓reduceIte] at R1 R2 AG KK;go_wp2_with fail;refine mb (DG _) ?_;rintro w' rfl;go_wp2_with fail;refine mb (R1 _) ?_;rintro w' rfl;go_wp2_with fail;refine mb (R2 _) ?_;rintro w' rfl;by_cases z:m=0
   ·
    have qm:((m:Int)==0)=true:=by simp[z]
    have E:Hid (R=1):=by show _=_;rw[<-K.out,ii (c:=1) (by rw[I.out,KK.out,if_pos z])]
    clear z;go_wp2;go_ret;exact⟨fT E.out.symm,J⟩
   have qm:((m:Int)==0)=false:=by simpa using z
   have ab:=fH z;clear z;go_wp2_with fail;have Dr:Bw wr wr.drew:=bR.drew;go_still_tail 7,(by kernel_rfl)
   change wpList _ _ _ _ _ wr.drew
   have Z:=fH (fM J Dr);clear Dr;generalize wr.drew=w2 at *;go_wp2_with fail;refine mb (AG _) ?_;rintro w3 aa;have B3:=fH (fM Z aa);clear aa Z J;by_cases D:M≠0
   ·
    have qc:(M != 0)=true:=by simpa [bne] using D
    have E:Hid (R=M):=by show _=_;rw[<-K.out,ii (c:=M) (by rw[I.out,KK.out,if_neg ab.out,if_pos D])]
    clear D;go_wp2;go_ret;exact⟨fT E.out.symm,B3⟩
   have qc:(M != 0)=false:=by rw[Decidable.not_not.1 D];rfl
   have HN:Hid (lD (bl (X.extract n X.size)) (bl (Y.extract m Y.size))=R):=by
    show _=_;rw[<-K.out,mT (x:=bl x) (y:=bl y) (a:=(bl X).drop n) (b:=(bl Y).drop m) (by rw[I.out,KK.out,if_neg ab.out,if_neg D]),ik,ik]
   clear D;go_wp2;go_quiet (fail);go_wp2;go_roundw
   case rel=>exact⟨_,_,rfl,rfl,by rw[e1.out];omega,by rw[e2.out];omega,HN,gh B3 _⟩
   case measure=>simp only[tD];have:=e1.out;simp at this |-;omega
def vt (fmt:Int)(l:LU):LU×LU×LU:=(la fmt l).getD ([],[],[])
def Hu (a b:BA):Int:=if gL 2 a≠0\/gL 2 b≠0 then 0 else iz id [nM (vt 2 (bl a)).1 (vt 2 (bl b)).1,lD (vt 2 (bl a)).2.1 (vt 2 (bl b)).2.1,lD (vt 2 (bl a)).2.2 (vt 2 (bl b)).2.2]
theorem vu (a b:BA)(w:World)(hG:Gl w)(ha:a.size<=1000000)(hb:b.size<=1000000):Calls prog 209 #[.int .i64 2,.string a,.string b] w fun e w'=>e=.returned (.int .i64 (Hu a b))/\Bw w w':=by
 have HG:=fH hG;clear hG;have S1:=fH fun W hw=>sW 2 (.inr (.inl rfl)) a W (HG.below hw) (by omega);have S2:=fH fun W hw=>sW 2 (.inr (.inl rfl)) b W (HG.below hw) (by omega);obtain⟨M,F⟩:∃ M,gL 2 a=M:=⟨_,rfl⟩
 obtain⟨U,z⟩:∃ U,gL 2 b=U:=⟨_,rfl⟩
 rw[F] at S1;rw[z] at S2;have CA:=fH F;have CB:=fH z;clear F z ha hb;go_in;go_wp2_with fail;refine(S1 w bR).mono ?_;rintro e w1 ⟨ep,pr,rv,rfl,J,Y⟩;have B1:=fH Y;have P1:=fH J;clear Y J S1;by_cases I:M≠0
 ·have q:(M != 0)=true:=by simpa [bne] using I
  have E:Hid (Hu a b=0):=by show _=_;unfold Hu;rw[if_pos (.inl (by rw[CA.out];exact I))]
  clear I;go_wp2;go_ret;exact⟨fT E.out.symm,B1⟩
 have q:(M != 0)=false:=by rw[Decidable.not_not.1 I];rfl
 have aa:Hid (gL 2 a=0):=by show _=_;rw[CA.out];exact Decidable.not_not.1 I
 obtain⟨x1,x2,x3,x4,x5⟩:=P1.out (Decidable.not_not.1 I);have X1:=fH x1;clear I x1 P1;go_wp2_with fail;refine(S2 w1 B1).mono ?_;rintro e w2 ⟨eq,ps,H,rfl,R,V⟩;have B2:=fH (fM B1 V);have P2:=fH R;clear V R S2;by_cases D:U≠0
 ·have q2:(U != 0)=true:=by simpa [bne] using D
  have E:Hid (Hu a b=0):=by show _=_;unfold Hu;rw[if_pos (.inr (by rw[CB.out];exact D))]
  clear D;go_wp2;go_ret;exact⟨fT E.out.symm,B2⟩
 have q2:(U != 0)=false:=by rw[Decidable.not_not.1 D];rfl
 have ab:Hid (gL 2 b=0):=by show _=_;rw[CB.out];exact Decidable.not_not.1 D
 obtain⟨y1,y2,y3,y4,y5⟩:=P2.out (Decidable.not_not.1 D);have E:Hid (Hu a b=iz id [nM (bl ep) (bl eq),lD (bl pr) (bl ps),lD (bl rv) (bl H)]):=by
  show _=_;unfold Hu vt;rw[if_neg (fun h=>h.elim (fun h=>h aa.out) (fun h=>h ab.out)),X1.out,y1];rfl
 clear D y1 P2;have N1:=fH fun W=>lZ ep eq W;have N2:=fH fun W=>qP pr ps W (by omega) (by omega);have N3:=fH fun W=>qP rv H W (by omega) (by omega);generalize nM (bl ep) (bl eq)=c1 at *;generalize lD (bl pr) (bl ps)=c2 at *;generalize lD (bl rv) (bl H)=c3 at *;have HO:=fH fun (W:World)=>Rs (some ⟨W.heap.size,0,none⟩) 3 [c1,c2,c3] (W.alloc (.cells (lC [c1,c2,c3]).toArray 3)) (Li W _ _) (by simp);have ic:lC [c1,c2,c3]=[.int .i64 c1,.int .i64 c2,.int .i64 c3]:=rfl;rw[ic] at HO;clear ic;go_wp2_with fail;refine mb (N1 _) ?_;rintro w3 Z;have B3:=fH (fM B2 Z);clear Z;go_wp2_with fail;refine mb (N2 _) ?_;rintro w4 X;have B4:=fH (fM B3 X);clear X;go_wp2_with fail;refine mb (N3 _) ?_;rintro w5 O;have B5:=fH (fM B4 O);clear O;go_wp2_with fail;refine mb (HO w5) ?_;rintro w6 K;have B6:=fH (fM (fM B5 (bR.alloc lr (.cells #[.int .i64 c1,.int .i64 c2,.int .i64 c3] 3))) K);clear K;go_wp2;go_ret;exact⟨fT E.out.symm,B6⟩
def iZ:LU->Int
 | []=>0
 | c::_=>if gf c=true then 0 else if c=126 then -1 else if ku c=true then c.toNat else 256+c.toNat
theorem zV (c:UInt8)(r:LU):iZ (c::r)=if gf c=true then 0 else if c=126 then -1 else if ku c=true then (c.toNat:Int) else 256+c.toNat:=rfl
theorem aaX (h:gf c=true):iZ (c::r)=0:=by rw[zV,if_pos h]
theorem Y8 (h:gf c=false):iZ (c::r)≠0:=by
 rw[zV,if_neg (by rw[h];simp)];by_cases D:c=126
 ·rw[if_pos D];decide
 ·rw[if_neg D];split
  ·rename_i z;intro e;have F:c.toNat=0:=by omega
   have:c=0:=by rw[<-UInt8.toNat_inj];simpa using F
   rw[this] at z;revert z;decide
  ·omega
theorem Y9 (h:iZ l=0):l=[]\/∃ c r,l=c::r/\gf c=true:=by
 cases l with
 | nil=>exact .inl rfl
 | cons c r=>
  right;refine⟨c,r,rfl,?_⟩;cases hd:gf c
  ·exact absurd h (Y8 hd)
  ·rfl
theorem Jq {a b:Int}:Lib.compareInt a b=0↔a=b:=by
 unfold Lib.compareInt;constructor
 ·intro h;split at h
  ·cases h
  ·split at h
   ·cases h
   ·omega
 ·rintro rfl;simp
def uw:LU->LU->(LU×LU) ⊕ Int
 | [],y=>if iZ y=0 then .inl ([],y) else .inr (Lib.compareInt 0 (iZ y))
 | c::r,y=>if iZ (c::r)=0/\iZ y=0 then .inl (c::r,y) else if Lib.compareInt (iZ (c::r)) (iZ y)≠0 then .inr (Lib.compareInt (iZ (c::r)) (iZ y)) else uw r (y.drop 1)
theorem Jr (D:iZ x=0)(z:iZ y=0):uw x y=.inl (x,y):=by
 cases x with
 | nil=>unfold uw;rw[if_pos z]
 | cons c r=>unfold uw;rw[if_pos ⟨D,z⟩]
theorem Js (h:Lib.compareInt (iZ x) (iZ y)≠0):uw x y=.inr (Lib.compareInt (iZ x) (iZ y)):=by
 have z:¬ (iZ x=0/\iZ y=0):=fun ⟨F,D⟩=>h (by rw[F,D];rfl);cases x with
 | nil=>
  unfold uw;rw[if_neg (fun D=>z ⟨rfl,D⟩)];rfl
 | cons c r=>unfold uw;rw[if_neg z,if_pos h]
theorem zX (h:Lib.compareInt (iZ x) (iZ y)=0)(z:iZ x≠0):uw x y=uw (x.drop 1) (y.drop 1):=by
 cases x with
 | nil=>exact absurd rfl z
 | cons c r=>
  rw[uw,if_neg (fun D=>z D.1),if_neg (by rw[h];simp)];rfl
theorem Tc:∀ (x y a b:LU),uw x y=.inl (a,b)->a.length<=x.length/\b.length<=y.length/\iZ a=0/\iZ b=0
 | [],y,a,b,h=>by
  unfold uw at h;split at h
  ·rename_i z;injection h with h;injection h with F D;subst F D;exact⟨lr,lr,rfl,z⟩
  ·cases h
 | c::r,y,a,b,h=>by
  rw[uw] at h;split at h
  ·rename_i z;injection h with h;injection h with F D;subst F D;exact⟨lr,lr,z.1,z.2⟩
  ·split at h
   ·cases h
   ·obtain⟨F,z,D,H⟩:=Tc r (y.drop 1) a b h;refine⟨by simp;omega,?_,D,H⟩;simp at z;omega
def LE (x y:LU):(LU×LU) ⊕ Int:=
 if x=[]/\y=[] then .inr 0 else match uw x y with
  | .inr c=>.inr c
  | .inl (a,b)=>if nM (a.take (fS gf a)) (b.take (fS gf b))≠0 then .inr (nM (a.take (fS gf a)) (b.take (fS gf b))) else .inl (a.drop (fS gf a),b.drop (fS gf b))
theorem A5 (h:iZ l=0)(z:l≠[]):(l.drop (fS gf l)).length<l.length:=by
 rcases Y9 h with e | ⟨c,r,e,D⟩
 ·exact absurd e z
 ·rw[e,kK,if_pos D];simp;omega
theorem Za {p:LU×LU}(h:LE x y=.inl p):p.1.length+p.2.length<x.length+y.length:=by
 unfold LE at h;split at h
 ·cases h
 ·rename_i z;split at h
  ·cases h
  ·rename_i a b J;obtain⟨R,O,M,I⟩:=Tc _ _ _ _ J;split at h
   ·cases h
   ·injection h with h;subst h;simp only;by_cases D:a=[]
    ·by_cases H:b=[]
     ·subst D H;simp;rcases Nat.eq_zero_or_pos (x.length+y.length) with F | F
      ·exfalso;apply z;exact⟨List.eq_nil_of_length_eq_zero (by omega),List.eq_nil_of_length_eq_zero (by omega)⟩
      ·exact F
     ·have:=A5 I H;have K:(a.drop (fS gf a)).length<=a.length:=by simp
      omega
    ·have:=A5 M D;have K:(b.drop (fS gf b)).length<=b.length:=by simp
     omega
def tj (x y:LU):Int:=match h:LE x y with
 | .inr c=>c
 | .inl p=>tj p.1 p.2
termination_by x.length+y.length
decreasing_by exact Za h
theorem qQ {c:Int}(h:LE x y=.inr c):tj x y=c:=by
 rw[tj];split
 ·rename_i z;rw[h] at z;injection z with z;exact z.symm
 ·rename_i z;rw[h] at z;cases z
theorem ux {a b:LU}(h:LE x y=.inl (a,b)):tj x y=tj a b:=by
 rw[tj];split
 ·rename_i z;rw[h] at z;cases z
 ·rename_i z;rw[h] at z;injection z with z;rw[<-z]
theorem Wa (h:LE x y=LE u v):tj x y=tj u v:=by
 cases hn:LE u v with
 | inr c=>rw[qQ hn,qQ (h.trans hn)]
 | inl p=>obtain⟨a,b⟩:=p;rw[ux hn,ux (h.trans hn)]
theorem yr:tj [] []=0:=qQ (by unfold LE;rw[if_pos ⟨rfl,rfl⟩])
def Jt (l:LU):Prop:=∀ x,l.head?=some x->gf x=false
theorem Td (n:Nat)(r:LU):iZ (fU n++r)=0:=by
 obtain⟨d,t,e,z⟩:=mf n;rw[e];exact aaX z
theorem FQ (n m:Nat)(F:Jt x)(D:Jt y):tj (fU n++x) (fU m++y)=if cI n m≠0 then cI n m else tj x y:=by
 have z:¬ (fU n++x=[]/\fU m++y=[]):=fun h=>oe n (List.append_eq_nil_iff.1 h.1).1;have e:LE (fU n++x) (fU m++y)=if cI n m≠0 then .inr (cI n m) else .inl (x,y):=by
  unfold LE;rw[if_neg z,Jr (Td n x) (Td m y)];simp only;rw[kM (iW n) F,kM (iW m) D,List.take_left,List.take_left,List.drop_left,List.drop_left,ym]
 by_cases h:cI n m≠0
 ·rw[if_pos h] at e |-;exact qQ e
 ·rw[if_neg h] at e |-;exact ux e
theorem rm (h:Lib.compareInt (iZ x) (iZ y)≠0):tj x y=Lib.compareInt (iZ x) (iZ y):=by
 refine qQ ?_;unfold LE;rw[if_neg (fun z=>h (by rw[z.1,z.2];rfl)),Js h]
theorem Cx (h:gf c=false)(x y:LU):tj (c::x) (c::y)=tj x y:=by
 have F:iZ (c::x)≠0:=Y8 h;have z:Lib.compareInt (iZ (c::x)) (iZ (c::y))=0:=Jq.2 rfl;by_cases D:x=[]/\y=[]
 ·obtain⟨rfl,rfl⟩:=D;rw[yr];have e:LE [c] [c]=.inl ([],[]):=by
   unfold LE;rw[if_neg (by simp),zX z F];rfl
  rw[ux e,yr]
 ·refine Wa ?_;unfold LE;rw[if_neg (by simp),if_neg D,zX z F];rfl
theorem Zb:∀ (w:LU){x y:LU},(∀ c∈w,gf c=false)->tj (w++x) (w++y)=tj x y
 | [],_,_,_=>rfl
 | c::r,x,y,h=>by
  show tj (c::(r++x)) (c::(r++y))=_;rw[Cx (h c (by simp))];exact Zb r (fun d z=>h d (by simp[z]))
theorem acK (x y:LU):tj (46::x) (46::y)=tj x y:=Cx (by decide) x y
theorem ov (n:Nat):iy 46 ([n].map fU)=fU n:=by simp[iy]
theorem mU (n m:Nat)(l:List Nat):iy 46 ((n::m::l).map fU)=fU n++46::iy 46 ((m::l).map fU):=by simp[iy]
def vP (t:LU):Prop:=∀ x,t.head?=some x->it x=true\/x=126
theorem vf {x:UInt8}(h:it x=true):gf x=false:=by
 cases hd:gf x
 ·rfl
 ·rw[pZ hd] at h;cases h
theorem vP.no (h:vP t):Jt t:=by
 intro x D;rcases h x D with z | rfl
 ·exact vf z
 ·decide
theorem rn {x:UInt8}(h:it x=true):ku x=true:=by unfold ku;rw[h];rfl
theorem aaY {x:UInt8}(h:it x=true):x≠126:=by rintro rfl;revert h;decide
theorem Cy {x:UInt8}(h:it x=true):iZ (x::r)=x.toNat:=by
 rw[zV,if_neg (by rw[vf h];simp),if_neg (aaY h),if_pos (rn h)]
theorem Te (h:vP t):iZ t<302:=by
 cases t with
 | nil=>decide
 | cons x r=>
  rcases h x rfl with z | rfl
  ·rw[Cy z];have:=x.toNat_lt;omega
  ·have:iZ (126::r)=-1:=rfl;rw[this];decide
theorem pp (r:LU):Jt (46::r):=by intro x z;simp at z;rw[<-z];decide
theorem Tf:∀ (z D:List Nat)(s t:LU),z≠[]->D≠[]->vP s->vP t ->
  tj (iy 46 (z.map fU)++s) (iy 46 (D.map fU)++t)=ot z D (tj s t)
 | [],_,_,_,h,_,_,_=>absurd rfl h
 | _::_,[],_,_,_,h,_,_=>absurd rfl h
 | [n],[m],s,t,_,_,hs,ht=>by
  rw[ov,ov,FQ n m hs.no ht.no];rfl
 | [n],m::m'::D,s,t,_,_,hs,ht=>by
  rw[ov,mU,List.append_assoc,List.cons_append,FQ n m hs.no (pp _)];have e:tj s (46::(iy 46 ((m'::D).map fU)++t))=-1:=by
   have F:Lib.compareInt (iZ s) (iZ (46::(iy 46 ((m'::D).map fU)++t)))=-1:=by
    unfold Lib.compareInt;rw[if_pos (by have:=Te hs;exact this)]
   rw[rm (by rw[F];decide),F]
  rw[e];rfl
 | n::n'::z,[m],s,t,_,_,hs,ht=>by
  rw[ov,mU,List.append_assoc,List.cons_append,FQ n m (pp _) ht.no];have e:tj (46::(iy 46 ((n'::z).map fU)++s)) t=1:=by
   have F:Lib.compareInt (iZ (46::(iy 46 ((n'::z).map fU)++s))) (iZ t)=1:=by
    have:=Te ht;unfold Lib.compareInt;rw[if_neg (by show ¬ (302:Int)<_;omega),if_pos (by show(302:Int) > _;omega)]
   rw[rm (by rw[F];decide),F]
  rw[e];rfl
 | n::n'::z,m::m'::D,s,t,_,_,hs,ht=>by
  rw[mU,mU,List.append_assoc,List.append_assoc,List.cons_append,List.cons_append,FQ n m (pp _) (pp _),acK,Tf (n'::z) (m'::D) s t (by simp) (by simp) hs ht];rfl
theorem Wb:∀ w∈jg,∀ v∈jg,w≠v->∃ a r b s,w=a::r/\v=b::s/\a≠b/\Lib.compareBytes w v=if a<b then -1 else 1:=by
 intro w z v D F;unfold jg at z D;simp only[List.mem_cons,List.not_mem_nil,or_false] at z D;rcases z with rfl | rfl | rfl | rfl<;>rcases D with rfl | rfl | rfl | rfl<;>first | exact absurd rfl F | exact⟨_,_,_,_,rfl,rfl,by decide,by decide⟩
theorem Tg {a b:UInt8}(r s:LU)(H:it a=true)(F:it b=true)(h:a≠b):Lib.compareInt (iZ (a::r)) (iZ (b::s))=if a<b then -1 else 1:=by
 rw[Cy H,Cy F];unfold Lib.compareInt;have D:a.toNat≠b.toNat:=fun e=>h (UInt8.toNat_inj.1 e);by_cases z:a<b
 ·have:=UInt8.lt_iff_toNat_lt.1 z;rw[if_pos z,if_pos (by omega)]
 ·have:¬ a.toNat<b.toNat:=fun e=>z (UInt8.lt_iff_toNat_lt.2 e);rw[if_neg z,if_neg (by omega),if_pos (by omega)]
theorem Zc {w:LU}(h:w∈jg):∀ c∈w,gf c=false:=fun c z=>vf (List.all_eq_true.1 (mI h) c z)
theorem Th (n m:Nat):tj (fU n) (fU m)=cI n m:=by
 have:=FQ n m (x:=[]) (y:=[]) (by intro x z;simp at z) (by intro x z;simp at z);rw[List.append_nil,List.append_nil,yr] at this;rw[this];by_cases h:cI n m≠0
 ·rw[if_pos h]
 ·rw[if_neg h];exact(Decidable.not_not.1 h).symm
def ow (w:LU)(n:Nat):LU:=if w=[] then [] else 126::(w++fU n)
theorem aaZ {w:LU}(n m:Nat)(D:w=[]\/w∈jg)(I:v=[]\/v∈jg):tj (ow w n) (ow v m)=th w n v m:=by
 unfold ow th;by_cases F:w=[]
 ·rw[if_pos F,if_pos F];by_cases z:v=[]
  ·rw[if_pos z,if_pos z];exact yr
  ·rw[if_neg z,if_neg z];have:Lib.compareInt (iZ []) (iZ (126::(v++fU m)))=1:=rfl;rw[rm (by rw[this];decide),this]
 ·rw[if_neg F,if_neg F];have D:=D.resolve_left F;by_cases z:v=[]
  ·rw[if_pos z,if_pos z];have:Lib.compareInt (iZ (126::(w++fU n))) (iZ [])=-1:=rfl;rw[rm (by rw[this];decide),this]
  ·rw[if_neg z,if_neg z];have I:=I.resolve_left z;rw[Cx (by decide)];by_cases U:w=v
   ·subst U;rw[Zb w (Zc D),Th,zT,if_neg (by simp)]
   ·obtain⟨a,r,b,s,J,O,K,M⟩:=Wb w D v I U;have V:it a=true:=List.all_eq_true.1 (mI D) a (by rw[J];simp);have X:it b=true:=List.all_eq_true.1 (mI I) b (by rw[O];simp);have H:Lib.compareBytes w v≠0:=by rw[M];split<;>decide
    have R:=Tg (r++fU n) (s++fU m) V X K;rw[if_pos H,J,O,List.cons_append,List.cons_append,rm (by rw[R,<-M];exact H),R,<-M,J,O]
theorem oS (c:gQ):jd 1 c=ow c.pre c.pnum:=rfl
theorem wJ {c:gQ}(ok:c.ok):c.pre=[]\/c.pre∈jg:=ok.pre.imp (fun h=>h.1) id
theorem vg {c:gQ}(ok:c.ok):vP (c.lt++jd 1 c):=by
 intro x z;rcases ok.lt with e | ⟨b,e,D⟩
 ·rw[e,List.nil_append,oS] at z;unfold ow at z;split at z
  ·simp at z
  ·simp at z;exact .inr z.symm
 ·rw[e] at z;simp at z;rw[<-z];exact .inl D
theorem aa0 {c d:gQ}(V:c.ok)(M:d.ok):tj (c.lt++jd 1 c) (d.lt++jd 1 d)=oZ c d:=by
 have J:=aaZ c.pnum d.pnum (wJ V) (wJ M);rw[<-oS,<-oS] at J;have Y:iZ (jd 1 c)<=0:=by
  rw[oS];unfold ow;split
  ·decide
  ·show(-1:Int)<=0;decide
 have aa:iZ (jd 1 d)<=0:=by
  rw[oS];unfold ow;split
  ·decide
  ·show(-1:Int)<=0;decide
 have H:∀ {b:UInt8} (r:LU),it b=true->0<iZ (b::r):=by
  intro b r D;rw[Cy D];unfold it at D;have:=dO D;omega
 unfold oZ;rcases V.lt with U | ⟨a,U,K⟩<;>rcases M.lt with R | ⟨b,R,D⟩<;>rw[U,R]
 ·exact J
 ·have F:Lib.compareInt (iZ ([]++jd 1 c)) (iZ ([b]++jd 1 d))=-1:=by
   have:=H (jd 1 d) D;unfold Lib.compareInt;rw[if_pos];show iZ (jd 1 c)<iZ (b::jd 1 d);omega
  rw[rm (by rw[F];decide),F]
 ·have F:Lib.compareInt (iZ ([a]++jd 1 c)) (iZ ([]++jd 1 d))=1:=by
   have:=H (jd 1 c) K;unfold Lib.compareInt;rw[if_neg,if_pos]
   ·show iZ (a::jd 1 c) > iZ (jd 1 d);omega
   ·show ¬ iZ (a::jd 1 c)<iZ (jd 1 d);omega
  rw[rm (by rw[F];decide),F]
 ·show tj (a::jd 1 c) (b::jd 1 d)=if a<b then -1 else if b<a then 1 else _
  by_cases z:a=b
  ·subst z;rw[Cx (vf K),if_neg (UInt8.lt_irrefl a),if_neg (UInt8.lt_irrefl a)];exact J
  ·have O:=Tg (jd 1 c) (jd 1 d) K D z;have Z:(if a<b then (-1:Int) else 1)≠0:=by split<;>decide
   rw[rm (by rw[O];exact Z),O];by_cases I:a<b
   ·rw[if_pos I,if_pos I]
   ·have X:b<a:=by
     rw[UInt8.lt_iff_toNat_lt];have F:¬ a.toNat<b.toNat:=fun e=>I (UInt8.lt_iff_toNat_lt.2 e);have h2:a.toNat≠b.toNat:=fun e=>z (UInt8.toNat_inj.1 e);omega
    rw[if_neg I,if_neg I,if_pos X]
theorem aa1 {c d:gQ}(D:c.ok)(z:d.ok):tj (ig 1 c) (ig 1 d)=ot c.nums d.nums (oZ c d):=by
 unfold ig nL;rw[Tf c.nums d.nums _ _ D.nums z.nums (vg D) (vg z),aa0 D z]
def Hv (a b:BA):Int:=if gL 1 a≠0\/gL 1 b≠0 then 0 else iz id [nM (vt 1 (bl a)).1 (vt 1 (bl b)).1,tj (vt 1 (bl a)).2.1 (vt 1 (bl b)).2.1,tj (vt 1 (bl a)).2.2 (vt 1 (bl b)).2.2]
theorem Rt (h:pF x y=pF u v):lD x y=lD u v:=by
 cases hn:pF u v with
 | inr c=>rw[ii hn,ii (h.trans hn)]
 | inl p=>obtain⟨a,b⟩:=p;rw[mT hn,mT (h.trans hn)]
theorem mJ (h:Lk c=false):yN (c::r)=c::r:=by
 unfold yN;rw[kK,h];rfl
theorem pq (h:Lk c=true):yN (c::r)=yN r:=by
 unfold yN;rw[kK,h];simp
theorem Cz:yN []=[]:=rfl
theorem aa2 (h:gf c=true):Lk c=false:=by unfold Lk;rw[h];simp
theorem CD (h:ku c=true):Lk c=false:=by unfold Lk;rw[h];simp
theorem ro (n:Nat)(r:LU):yN (fU n++r)=fU n++r:=by
 obtain⟨d,t,e,z⟩:=mf n;rw[e];exact mJ (aa2 z)
theorem jE (c x:UInt8)(r:LU):tH (c::r) x=(c==x):=by
 unfold tH Lib.hasPrefix;simp[List.isPrefixOf,BEq.comm]
theorem uy (h:gf c=true):(c==126)=false/\(c==94)=false:=by
 constructor<;>(rw[bF];rintro rfl;revert h;decide)
theorem uz (h:it c=true):(c==126)=false/\(c==94)=false:=by
 constructor<;>(rw[bF];rintro rfl;revert h;decide)
theorem Ti (u:LU)(h:tH y 126=false):ou (126::u) y=.inr (-1):=by
 have e:tH (126::u) 126=true:=by rw[jE];rfl
 unfold ou;rw[h,e,if_neg (by simp),if_pos rfl]
theorem Tj (v:LU)(h:tH x 126=false):ou x (126::v)=.inr 1:=by
 have e:tH (126::v) 126=true:=by rw[jE];rfl
 unfold ou;rw[h,e,if_neg (by simp),if_neg (by simp),if_pos rfl]
theorem Tk (y:LU)(h:(d==126)=false/\(d==94)=false):ou [] (d::y)=.inr (-1):=by
 have H:tH [] 126=false:=rfl;have D:tH [] 94=false:=rfl;have z:tH (d::y) 126=false:=by rw[jE];exact h.1
 have F:tH (d::y) 94=false:=by rw[jE];exact h.2
 unfold ou;rw[H,D,z,F,if_neg (by simp),if_neg (by simp),if_neg (by simp),if_neg (by simp),if_neg (by simp),if_neg (by simp),if_pos (.inl rfl),zS,zU (by simp)]
theorem Tl (y:LU)(h:(d==126)=false/\(d==94)=false):ou (d::y) []=.inr 1:=by
 have H:tH [] 126=false:=rfl;have D:tH [] 94=false:=rfl;have z:tH (d::y) 126=false:=by rw[jE];exact h.1
 have F:tH (d::y) 94=false:=by rw[jE];exact h.2
 unfold ou;rw[H,D,z,F,if_neg (by simp),if_neg (by simp),if_neg (by simp),if_neg (by simp),if_neg (by simp),if_neg (by simp),if_pos (.inr rfl),zS,Lj (by simp)]
theorem yu {s:LU}(z:x=c::r)(D:y=d::s)(H:(c==126)=false/\(c==94)=false)(F:(d==126)=false/\(d==94)=false)(I:uv (gf c) c=true):
  ou x y=if fS (uv (gf c)) y=0 then .inr (if gf c=true then 1 else -1)
   else if WU (gf c) (x.take (fS (uv (gf c)) x)) (y.take (fS (uv (gf c)) y))≠0 then .inr (WU (gf c) (x.take (fS (uv (gf c)) x)) (y.take (fS (uv (gf c)) y)))
   else .inl (x.drop (fS (uv (gf c)) x),y.drop (fS (uv (gf c)) y)):=by
 have J:Od x=gf c:=by rw[z];rfl
 have O:fS (uv (gf c)) x≠0:=by rw[z,kK,if_pos I];omega
 unfold ou;rw[J];have R:tH x 126=false:=by rw[z,jE];exact H.1
 have K:tH x 94=false:=by rw[z,jE];exact H.2
 have V:tH y 126=false:=by rw[D,jE];exact F.1
 have M:tH y 94=false:=by rw[D,jE];exact F.2
 rw[R,K,V,M];have U:¬ (x.length=0\/y.length=0):=by rw[z,D];simp
 rw[if_neg (by simp),if_neg (by simp),if_neg (by simp),if_neg (by simp),if_neg (by simp),if_neg (by simp),if_neg U,if_neg O]
theorem FS (n m:Nat)(I:Jt x)(H:Jt y):lD (fU n++x) (fU m++y)=if cI n m≠0 then cI n m else lD x y:=by
 obtain⟨d,t,J,z⟩:=mf n;obtain⟨K,M,O,D⟩:=mf m;have F:=yu (x:=fU n++x) (y:=fU m++y) (c:=d) (d:=K) (r:=t++x) (s:=M++y) (by rw[J];rfl) (by rw[O];rfl) (uy z) (uy D) (by rw[z];exact z);rw[z] at F;have e:pF (fU n++x) (fU m++y)=if cI n m≠0 then .inr (cI n m) else .inl (x,y):=by
  unfold pF;rw[ro,ro,F];show(if fS gf (fU m++y)=0 then _ else if WU true ((fU n++x).take (fS gf (fU n++x))) ((fU m++y).take (fS gf (fU m++y)))≠0 then _ else Sum.inl ((fU n++x).drop (fS gf (fU n++x)),(fU m++y).drop (fS gf (fU m++y))))=_;have R:=oh m;rw[kM (iW n) I,kM (iW m) H,if_neg (by omega),List.take_left,List.take_left,List.drop_left,List.drop_left];have:WU true (fU n) (fU m)=cI n m:=by unfold WU;rw[if_pos rfl];exact ym n m
  rw[this];show(if cI n m≠0 then Sum.inr (WU true ((fU n++x).take (fS gf (fU n++x))) ((fU m++y).take (fS gf (fU m++y)))) else _)=_;rw[kM (iW n) I,kM (iW m) H,List.take_left,List.take_left,this]
 by_cases h:cI n m≠0
 ·rw[if_pos h] at e |-;exact ii e
 ·rw[if_neg h] at e |-;exact mT e
theorem Oe:Lk 46=true:=by decide
theorem acL (x y:LU):lD (46::x) (46::y)=lD x y:=by
 refine Rt ?_;unfold pF;rw[pq Oe,pq Oe]
theorem Of:lD [] []=0:=ii rfl
theorem acM (h:vP t):yN t=t:=by
 cases t with
 | nil=>rfl
 | cons x r=>
  rcases h x rfl with z | rfl
  ·exact mJ (CD (rn z))
  ·exact mJ (by decide)
theorem Tm (n:Nat)(ht:vP t):lD t (46::(fU n++x))=-1/\lD (46::(fU n++x)) t=1:=by
 obtain⟨d,r,e,z⟩:=mf n;have F:fU n++x=d::(r++x):=by rw[e];rfl
 cases t with
 | nil=>
  constructor
  ·refine ii ?_;unfold pF;rw[pq Oe,ro,Cz,F];exact Tk _ (uy z)
  ·refine ii ?_;unfold pF;rw[pq Oe,ro,Cz,F];exact Tl _ (uy z)
 | cons b s=>
  have I:=acM ht;rcases ht b rfl with H | rfl
  ·have D:=vf H;constructor
   ·refine ii ?_;unfold pF;rw[pq Oe,ro,I,yu rfl F (uz H) (uy z) (by rw[D];exact rn H),D,F];have:fS (uv false) (d::(r++x))=0:=by
     rw[kK];have J:ku d=false:=by
      unfold ku TE it;unfold gf at z;have:=dO z;rw[dF,dF];rfl
     rw[if_neg (by show ¬ ku d=true;rw[J];simp)]
    rw[if_pos this];rfl
   ·refine ii ?_;unfold pF;rw[pq Oe,ro,I,yu F rfl (uy z) (uz H) (by rw[z];exact z),z];have:fS (uv true) (b::s)=0:=by
     rw[kK,if_neg (by show ¬ gf b=true;rw[D];simp)]
    rw[if_pos this];rfl
  ·constructor
   ·refine ii ?_;unfold pF;rw[pq Oe,ro,I,F];exact Ti _ (by rw[jE];exact(uy z).1)
   ·refine ii ?_;unfold pF;rw[pq Oe,ro,I,F];exact Tj _ (by rw[jE];exact(uy z).1)
theorem Ju (n:Nat)(l:List Nat):∃ x,iy 46 ((n::l).map fU)=fU n++x:=by
 cases l with
 | nil=>exact⟨[],by rw[ov,List.append_nil]⟩
 | cons m r=>exact⟨_,mU n m r⟩
theorem Tn:∀ (D z:List Nat)(s t:LU),D≠[]->z≠[]->vP s->vP t ->
  lD (iy 46 (D.map fU)++s) (iy 46 (z.map fU)++t)=ot D z (lD s t)
 | [],_,_,_,h,_,_,_=>absurd rfl h
 | _::_,[],_,_,_,h,_,_=>absurd rfl h
 | [n],[m],s,t,_,_,hs,ht=>by
  rw[ov,ov,FS n m hs.no ht.no];rfl
 | [n],m::m'::z,s,t,_,_,hs,ht=>by
  obtain⟨x,e⟩:=Ju m' z;rw[ov,mU,List.append_assoc,List.cons_append,FS n m hs.no (pp _),e,List.append_assoc,(Tm m' hs).1];rfl
 | n::n'::D,[m],s,t,_,_,hs,ht=>by
  obtain⟨x,e⟩:=Ju n' D;rw[ov,mU,List.append_assoc,List.cons_append,FS n m (pp _) ht.no,e,List.append_assoc,(Tm n' ht).2];rfl
 | n::n'::D,m::m'::z,s,t,_,_,hs,ht=>by
  rw[mU,mU,List.append_assoc,List.append_assoc,List.cons_append,List.cons_append,FS n m (pp _) (pp _),acL,Tn (n'::D) (m'::z) s t (by simp) (by simp) hs ht];rfl
theorem To (n m:Nat):lD (fU n) (fU m)=cI n m:=by
 have:=FS n m (x:=[]) (y:=[]) (by intro x z;simp at z) (by intro x z;simp at z);rw[List.append_nil,List.append_nil,Of] at this;rw[this];by_cases h:cI n m≠0
 ·rw[if_pos h]
 ·rw[if_neg h];exact(Decidable.not_not.1 h).symm
theorem Tp {w:LU}(h:w.all it=true)(D:∀ c,r.head?=some c->ku c=false):fS ku (w++r)=w.length:=
 sg (by rw[List.all_eq_true] at h |-;exact fun c z=>rn (h c z)) D
theorem aa3 (z:gf d=true):ku d=false:=by
 unfold ku TE it;unfold gf at z;have:=dO z;rw[dF,dF];rfl
theorem Tq {w:LU}(M:w.all it=true)(R:v.all it=true)(Z:w≠[])(V:v≠[])(hx:∀ c,x.head?=some c->ku c=false)(hy:∀ c,y.head?=some c->ku c=false):
  lD (w++x) (v++y)=if Lib.compareBytes w v≠0 then Lib.compareBytes w v else lD x y:=by
 obtain⟨a,r,U⟩:=List.exists_cons_of_ne_nil Z;obtain⟨b,s,F⟩:=List.exists_cons_of_ne_nil V;have D:it a=true:=List.all_eq_true.1 M a (by rw[U];simp);have J:it b=true:=List.all_eq_true.1 R b (by rw[F];simp);have z:=vf D;have I:w++x=a::(r++x):=by rw[U];rfl
 have O:v++y=b::(s++y):=by rw[F];rfl
 have s1:yN (w++x)=w++x:=by rw[I];exact mJ (CD (rn D))
 have Y:yN (v++y)=v++y:=by rw[O];exact mJ (CD (rn J))
 have K:=yu I O (uz D) (uz J) (by rw[z];exact rn D);rw[z] at K;have X:fS (uv false) (w++x)=w.length:=Tp M hx;have r2:fS (uv false) (v++y)=v.length:=Tp R hy;have H:v.length≠0:=by rw[F];simp
 have e:pF (w++x) (v++y)=if Lib.compareBytes w v≠0 then .inr (Lib.compareBytes w v) else .inl (x,y):=by
  unfold pF;rw[s1,Y,K,X,r2,if_neg H,List.take_left,List.take_left,List.drop_left,List.drop_left];rfl
 by_cases h:Lib.compareBytes w v≠0
 ·rw[if_pos h] at e |-;exact ii e
 ·rw[if_neg h] at e |-;exact mT e
theorem aa4 (x y:LU):lD (126::x) (126::y)=lD x y:=by
 refine mT ?_;unfold pF;rw[mJ (by decide),mJ (by decide)];unfold ou;rw[if_pos (by rw[jE,jE];exact⟨rfl,rfl⟩)];rfl
theorem Jv (n:Nat):∀ c,(fU n).head?=some c->ku c=false:=by
 intro c z;obtain⟨d,r,e,D⟩:=mf n;rw[e] at z;simp at z;rw[<-z];exact aa3 D
theorem aa5 {w:LU}(n m:Nat)(F:w=[]\/w∈jg)(H:v=[]\/v∈jg):lD (ow w n) (ow v m)=th w n v m:=by
 unfold ow th;by_cases D:w=[]
 ·rw[if_pos D,if_pos D];by_cases z:v=[]
  ·rw[if_pos z,if_pos z];exact Of
  ·rw[if_neg z,if_neg z];refine ii ?_;unfold pF;rw[mJ (by decide),Cz];unfold ou;simp only[jE];rfl
 ·rw[if_neg D,if_neg D];by_cases z:v=[]
  ·rw[if_pos z,if_pos z];refine ii ?_;unfold pF;rw[mJ (by decide),Cz];unfold ou;simp only[jE];rfl
  ·rw[if_neg z,if_neg z,aa4,Tq (mI (F.resolve_left D)) (mI (H.resolve_left z)) D z (Jv n) (Jv m),To]
theorem FT (w:LU)(n:Nat):∀ c,(ow w n).head?=some c->ku c=false:=by
 intro c z;unfold ow at z;split at z
 ·simp at z
 ·simp at z;rw[<-z];decide
theorem Og {b:UInt8}(z:it b=true)(w y:LU)(n:Nat):lD (ow w n) (b::y)=-1/\lD (b::y) (ow w n)=1:=by
 have F:yN (b::y)=b::y:=mJ (CD (rn z));have D:yN (ow w n)=ow w n:=by
  unfold ow;split
  ·rfl
  ·exact mJ (by decide)
 constructor
 ·refine ii ?_;unfold pF;rw[F,D];unfold ow;split
  ·exact Tk _ (uz z)
  ·exact Ti _ (by rw[jE];exact(uz z).1)
 ·refine ii ?_;unfold pF;rw[F,D];unfold ow;split
  ·exact Tl _ (uz z)
  ·exact Tj _ (by rw[jE];exact(uz z).1)
theorem aa6 {c d:gQ}(M:c.ok)(D:d.ok):lD (c.lt++jd 1 c) (d.lt++jd 1 d)=oZ c d:=by
 have F:=aa5 c.pnum d.pnum (wJ M) (wJ D);rw[oS,oS];unfold oZ;rcases M.lt with H | ⟨a,H,I⟩<;>rcases D.lt with O | ⟨b,O,K⟩<;>rw[H,O]
 ·exact F
 ·exact(Og K _ _ _).1
 ·exact(Og I _ _ _).2
 ·rw[Tq (by simp[I]) (by simp[K]) (by simp) (by simp) (FT _ _) (FT _ _),F];have:Lib.compareBytes [a] [b]=if a<b then -1 else if b<a then 1 else 0:=by
   unfold Lib.compareBytes Lib.compareBytes;rfl
  rw[this];by_cases z:a<b
  ·simp[z]
  ·by_cases J:b<a
   ·simp[z,J]
   ·simp[z,J]
theorem Zd (c:gQ):ig 2 c=ig 1 c:=rfl
theorem aa7 {c d:gQ}(D:c.ok)(z:d.ok):lD (ig 2 c) (ig 2 d)=ot c.nums d.nums (oZ c d):=by
 rw[Zd,Zd];unfold ig nL;rw[Tn c.nums d.nums _ _ D.nums z.nums (vg D) (vg z),aa6 D z]
theorem vh (F:fmt=1\/fmt=2\/fmt=3){c:gQ}(ok:c.ok)(D:l=gH fmt c)(z:la fmt l≠none):vt fmt l=(Cr fmt c,ig fmt c,fU c.rev):=by
 unfold vt;cases h:la fmt l with
 | none=>exact absurd h z
 | some x=>rw[D] at h;rw[AH F ok h];rfl
theorem Wc {a b:BA}{c d:gQ}(H:c.ok)(z:d.ok)(D:gL 1 a=0)(F:gL 1 b=0)(I:bl a=gH 1 c)(J:bl b=gH 1 d):Hv a b=ti c d:=by
 unfold Hv ti;rw[if_neg (fun h=>h.elim (fun h=>h D) (fun h=>h F)),vh (.inl rfl) H I (kB (.inl rfl) D).1,vh (.inl rfl) z J (kB (.inl rfl) F).1];simp only;rw[Tb 1 c d (fun h=>by cases h),aa1 H z,Th]
theorem We {a b:BA}{c d:gQ}(H:c.ok)(z:d.ok)(D:gL 2 a=0)(F:gL 2 b=0)(I:bl a=gH 2 c)(J:bl b=gH 2 d):Hu a b=ti c d:=by
 unfold Hu ti;rw[if_neg (fun h=>h.elim (fun h=>h D) (fun h=>h F)),vh (.inr (.inl rfl)) H I (kB (.inr (.inl rfl)) D).1,vh (.inr (.inl rfl)) z J (kB (.inr (.inl rfl)) F).1];simp only;rw[Tb 2 c d (fun h=>by cases h),aa7 H z,To]
def sn (p q:Pc):Int:=
 if p.kind≠q.kind then Lib.compareInt p.kind q.kind
 else if p.kind=0\/p.kind=4 then Lib.compareInt p.word q.word
 else if p.kind=5\/(p.kind=6/\(jJ p.text=true\/jJ q.text=true)) then Lib.compareBytes p.text q.text
 else nM p.text q.text
def mK:List Pc->List Pc->Int
 | [],[]=>0
 | [],_::_=>-1
 | _::_,[]=>1
 | p::ps,q::qs=>if sn p q≠0 then sn p q else mK ps qs
def sq:Int->List Nat->List Pc
 | _,[]=>[]
 | k,n::r=>⟨k,fU n,0⟩::sq 6 r
def yv (l:LU):List Pc:=match l with
 | []=>[]
 | b::_=>[⟨5,[b],0⟩]
def nI (w:LU)(n:Nat):List Pc:=if w=[] then [] else [⟨0,w,((lK w).getD 0:Nat)⟩,⟨3,fU n,0⟩]
def sr (n:Nat):List Pc:=[⟨2,fU n,0⟩,⟨1,[],0⟩]
def Oh (c:gQ):List Pc:=sq 7 c.nums++(yv c.lt++(nI c.pre c.pnum++sr c.rev))
theorem Ba:∀ (L:List Nat)(k:Nat)(z:Int)(D:List Pc)(r:LU),L≠[]->L.length<=k->(∀ x,r.head?=some x->gf x=false/\x≠46) ->
  lI k z D (iy 46 (L.map fU)++r)=some (D++sq z L,r)
 | [],_,_,_,_,h,_,_=>absurd rfl h
 | _::_,0,_,_,_,_,h,_=>by simp at h
 | [n],k+1,z,D,r,_,_,hr=>by
  have F:fS gf (fU n++r)=(fU n).length:=kM (iW n) (fun x H=>(hr x H).1);have I:=oh n;simp only[List.map_cons,List.map_nil,iy];unfold lI;rw[F,if_neg (by omega),List.drop_left,List.take_left];cases r with
  | nil=>rfl
  | cons x t=>
   have H:=(hr x rfl).2;split
   ·rename_i e;injection e with e1 _;exact absurd e1 H
   ·rfl
 | n::m::L,k+1,z,D,r,_,hk,hr=>by
  have I:=oh n;simp only[List.map_cons,iy,List.append_assoc,List.cons_append];have F:fS gf (fU n++46::(iy 46 (fU m::L.map fU)++r))=(fU n).length:=kM (iW n) (fun x H=>by
   simp only[List.head?_cons,Option.some.injEq] at H;rw[<-H];decide)
  unfold lI;rw[F,if_neg (by omega),List.drop_left,List.take_left];have:=Ba (m::L) k 6 (D++[⟨z,fU n,0⟩]) r (by simp) (by simp at hk |-;omega) hr;simp only[List.map_cons] at this;refine Eq.trans this ?_;simp[sq]
theorem aa8:∀ w∈jg,∃ i,lK w=some i/\i<4:=by
 intro w z;unfold jg at z;simp only[List.mem_cons,List.not_mem_nil,or_false] at z;rcases z with rfl | rfl | rfl | rfl<;>first | exact⟨0,by decide,by decide⟩ | exact⟨1,by decide,by decide⟩ | exact⟨2,by decide,by decide⟩ | exact⟨3,by decide,by decide⟩
theorem Wf {c:gQ}(ok:c.ok):∃ x,rz (gH 3 c)=some (Oh c,x):=by
 have e1:rC 3 c=[]:=by unfold rC;rw[if_pos (.inl rfl)]
 have hd:jD 3=[45,114]:=rfl;generalize hR:jD 3++fU c.rev=R;have I:R=45::114::fU c.rev:=by rw[<-hR,hd];rfl
 have U:∀ x,(jd 3 c++R).head?=some x->x=95\/x=45:=by
  intro x z;unfold jd at z;split at z
  ·rw[I] at z;simp at z;exact .inr z.symm
  ·simp[vI] at z;exact .inl z.symm
 have X:∀ x,(c.lt++(jd 3 c++R)).head?=some x->gf x=false/\x≠46:=by
  intro x z;rcases ok.lt with e | ⟨b,e,M⟩
  ·rw[e,List.nil_append] at z;rcases U x z with rfl | rfl<;>decide
  ·rw[e] at z;simp only[List.cons_append,List.head?_cons,Option.some.injEq] at z;subst z;constructor
   ·cases h:gf b with
    | false=>rfl
    | true=>rw[pZ h] at M;cases M
   ·rintro rfl;revert M;decide
 have Z:gH 3 c=nL c++(c.lt++(jd 3 c++R)):=by unfold gH ig;rw[e1,hR];simp
 have hn:=Ba c.nums ((gH 3 c).length+1) 7 [] (c.lt++(jd 3 c++R)) ok.nums (by
  have:=Ex c.nums;rw[Z,List.length_append];unfold nL;omega) X
 rw[List.nil_append] at hn;have K:mr (sq 7 c.nums) (c.lt++(jd 3 c++R))=(sq 7 c.nums++yv c.lt,jd 3 c++R):=by
  rcases ok.lt with e | ⟨b,e,M⟩
  ·rw[e,List.nil_append];cases hq:jd 3 c++R with
   | nil=>simp[yv,mr]
   | cons x t=>
    have z:it x=false:=by rcases U x (by rw[hq];rfl) with rfl | rfl<;>decide
    unfold mr;simp only;rw[if_neg (by rw[z];simp)];simp[yv]
  ·rw[e];show mr _ (b::(jd 3 c++R))=_;unfold mr;simp only;rw[if_pos M];rfl
 have J:∀ k D,km (k+1) D R=some (D,R):=by
  intro k D;rw[I];unfold km;simp
 have O:∀ D,km ((jd 3 c++R).length+1) D (jd 3 c++R)=some (D++nI c.pre c.pnum,R):=by
  intro D;unfold jd nI;by_cases F:c.pre=[]
  ·rw[if_pos F,if_pos F,List.nil_append,List.append_nil];exact J _ _
  ·rw[if_neg F,if_neg F];have Y:c.pre∈jg:=(wJ ok).resolve_left F;obtain⟨i,hi,aa⟩:=aa8 _ Y;have V:vI 3=95:=rfl;rw[V];simp only[List.cons_append,List.length_cons,List.append_assoc];have r1:fS it (c.pre++(fU c.pnum++R))=c.pre.length:=AF (mI Y) (fun x z=>pZ (oY _ _ x z));have r2:fS gf (fU c.pnum++R)=(fU c.pnum).length:=kM (iW _) (fun x z=>by rw[I] at z;simp at z;rw[<-z];decide);have hp:=oh c.pnum;unfold km;simp only[r1,List.take_left,List.drop_left,hi,r2,Option.getD_some];rw[if_neg (by omega),if_pos hp,J];simp
 unfold rz;rw[Z] at *;unfold nL at *;rw[hn];simp only[K,O];have H:∃ x,tF (iy 46 (c.nums.map fU)++(c.lt++(jd 3 c++R))) (sq 7 c.nums++yv c.lt++nI c.pre c.pnum) R=some (Oh c,x):=by
  rw[I];unfold tF;simp only[uQ,if_true];refine⟨_,congrArg some (Prod.ext ?_ rfl)⟩;unfold Oh sr;simp
 obtain⟨x,H⟩:=H;exact⟨x,H⟩
theorem Bb (n:Nat):jJ (fU n)=false:=by
 by_cases h:n=0
 ·subst h;rw[jj (by omega)];rfl
 ·exact EJ h
theorem ss (k:Int)(h:k=2\/k=3\/k=6\/k=7)(n m:Nat):sn ⟨k,fU n,0⟩ ⟨k,fU m,0⟩=cI n m:=by
 unfold sn;simp only;rw[if_neg (by simp),if_neg (by omega),if_neg (by rw[Bb,Bb];rintro(h1 | ⟨_,h1 | h1⟩);(· omega);(· cases h1);(· cases h1)),ym]
def Ze (l:List Pc):Prop:=∃ p r,l=p::r/\p.kind<6
theorem aa9 {p q:Pc}(h:p.kind<q.kind):sn p q=-1/\sn q p=1:=by
 unfold sn Lib.compareInt;rw[if_pos (by omega),if_pos h,if_pos (by omega),if_neg (by omega),if_pos (by omega)];exact⟨rfl,rfl⟩
theorem su {p q:Pc}{ps qs:List Pc}(h:p.kind<q.kind):mK (p::ps) (q::qs)=-1/\mK (q::qs) (p::ps)=1:=by
 obtain⟨z,D⟩:=aa9 h;unfold mK;rw[z,D];exact⟨if_pos (by decide),if_pos (by decide)⟩
theorem Tr:∀ (D z:List Nat)(k:Int)(s t:List Pc),D≠[]->z≠[]->(k=6\/k=7)->Ze s->Ze t->mK (sq k D++s) (sq k z++t)=ot D z (mK s t)
 | [],_,_,_,_,h,_,_,_,_=>absurd rfl h
 | _::_,[],_,_,_,_,h,_,_,_=>absurd rfl h
 | [n],[m],k,s,t,_,_,hk,_,_=>by
  show mK (⟨k,fU n,0⟩::s) (⟨k,fU m,0⟩::t)=_;rw[mK,ss k (by omega)];rfl
 | [n],m::m'::z,k,s,t,_,_,hk,hs,_=>by
  obtain⟨p,r,e,F⟩:=hs;show mK (⟨k,fU n,0⟩::s) (⟨k,fU m,0⟩::(⟨6,fU m',0⟩::(sq 6 z++t)))=_;rw[mK,ss k (by omega),e,(su (p:=p) (q:=⟨6,fU m',0⟩) F).1];rfl
 | n::n'::D,[m],k,s,t,_,_,hk,_,ht=>by
  obtain⟨p,r,e,F⟩:=ht;show mK (⟨k,fU n,0⟩::(⟨6,fU n',0⟩::(sq 6 D++s))) (⟨k,fU m,0⟩::t)=_;rw[mK,ss k (by omega),e,(su (p:=p) (q:=⟨6,fU n',0⟩) F).2];rfl
 | n::n'::D,m::m'::z,k,s,t,_,_,hk,hs,ht=>by
  show mK (⟨k,fU n,0⟩::(sq 6 (n'::D)++s)) (⟨k,fU m,0⟩::(sq 6 (m'::z)++t))=_;rw[mK,ss k (by omega),Tr (n'::D) (m'::z) 6 s t (by simp) (by simp) (.inl rfl) hs ht];rfl
theorem yx:∀ (z D:List Nat)(t u:Int),z≠[]->D≠[]->ot z D (if t≠0 then t else u)=if ot z D t≠0 then ot z D t else u
 | [],_,_,_,h,_=>absurd rfl h
 | _::_,[],_,_,_,h=>absurd rfl h
 | n::z,m::D,t,u,_,_=>by
  unfold ot;by_cases F:cI n m≠0
  ·rw[if_pos F,if_pos F,if_pos F]
  ·rw[if_neg F,if_neg F]
   match z,D with
   | [],[]=>rfl
   | [],_::_=>exact(if_pos (show(-1:Int)≠0 by decide)).symm
   | _::_,[]=>exact(if_pos (show(1:Int)≠0 by decide)).symm
   | n'::z,m'::D=>exact yx (n'::z) (m'::D) t u (by simp) (by simp)
theorem Zf (n m:Nat):mK (sr n) (sr m)=cI n m:=by
 unfold sr;rw[mK,ss 2 (.inl rfl)];by_cases h:cI n m≠0
 ·rw[if_pos h]
 ·rw[if_neg h,Decidable.not_not.1 h];rfl
theorem aba (n:Nat):Ze (sr n):=⟨_,_,rfl,by show(2:Int)<6;decide⟩
theorem Zg (w:LU)(n r:Nat):Ze (nI w n++sr r):=by
 unfold nI;split
 ·exact aba r
 ·exact⟨_,_,rfl,by simp⟩
theorem Oi (l w:LU)(n r:Nat):Ze (yv l++(nI w n++sr r)):=by
 unfold yv;cases l with
 | nil=>exact Zg w n r
 | cons b t=>exact⟨_,_,rfl,by simp⟩
theorem Zh:∀ w∈jg,∀ v∈jg,Lib.compareInt (((lK w).getD 0:Nat):Int) (((lK v).getD 0:Nat):Int)=Lib.compareBytes w v:=by
 intro w z v D;unfold jg at z D;simp only[List.mem_cons,List.not_mem_nil,or_false] at z D;rcases z with rfl | rfl | rfl | rfl<;>rcases D with rfl | rfl | rfl | rfl<;>decide
theorem abb {w:LU}(n m r s:Nat)(H:w=[]\/w∈jg)(I:v=[]\/v∈jg):mK (nI w n++sr r) (nI v m++sr s)=if th w n v m≠0 then th w n v m else cI r s:=by
 unfold nI th;by_cases D:w=[]
 ·rw[if_pos D,if_pos D];by_cases z:v=[]
  ·rw[if_pos z,if_pos z,List.nil_append,List.nil_append,Zf];rfl
  ·rw[if_neg z,if_neg z,if_pos (by decide)];exact(su (p:=⟨0,v,((lK v).getD 0:Nat)⟩) (q:=⟨2,fU r,0⟩) (by show(0:Int)<2;decide)).2
 ·rw[if_neg D,if_neg D];by_cases z:v=[]
  ·rw[if_pos z,if_pos z,if_pos (by decide)];exact(su (p:=⟨0,w,((lK w).getD 0:Nat)⟩) (q:=⟨2,fU s,0⟩) (by show(0:Int)<2;decide)).1
  ·rw[if_neg z,if_neg z];have J:=Zh w (H.resolve_left D) v (I.resolve_left z);show mK (⟨0,w,((lK w).getD 0:Nat)⟩ :: ⟨3,fU n,0⟩::sr r) (⟨0,v,((lK v).getD 0:Nat)⟩ :: ⟨3,fU m,0⟩::sr s)=_;have e:sn ⟨0,w,((lK w).getD 0:Nat)⟩ ⟨0,v,((lK v).getD 0:Nat)⟩=Lib.compareBytes w v:=by
    unfold sn;simp only;rw[if_neg (by simp),if_pos (by simp),J]
   rw[mK,e,mK,ss 3 (by omega),Zf];by_cases F:Lib.compareBytes w v≠0
   ·rw[if_pos F,if_pos F,if_pos F]
   ·rw[if_neg F,if_neg F]
theorem abc {c d:gQ}(K:c.ok)(D:d.ok):mK (yv c.lt++(nI c.pre c.pnum++sr c.rev)) (yv d.lt++(nI d.pre d.pnum++sr d.rev))=if oZ c d≠0 then oZ c d else cI c.rev d.rev:=by
 have I:=abb c.pnum d.pnum c.rev d.rev (wJ K) (wJ D);obtain⟨R,Y,V,M⟩:∃ p r,nI c.pre c.pnum++sr c.rev=p::r/\p.kind<5:=by
  unfold nI;split
  ·exact⟨_,_,rfl,by show(2:Int)<5;decide⟩
  ·exact⟨_,_,rfl,by simp⟩
 obtain⟨O,r2,X,U⟩:∃ p r,nI d.pre d.pnum++sr d.rev=p::r/\p.kind<5:=by
  unfold nI;split
  ·exact⟨_,_,rfl,by show(2:Int)<5;decide⟩
  ·exact⟨_,_,rfl,by simp⟩
 unfold oZ;rcases K.lt with J | ⟨a,J,ha⟩<;>rcases D.lt with H | ⟨b,H,Z⟩<;>rw[J,H]
 ·exact I
 ·show mK (nI c.pre c.pnum++sr c.rev) (⟨5,[b],0⟩::_)=_;rw[V,if_pos (show(-1:Int)≠0 by decide)];exact(su (p:=R) (q:=⟨5,[b],0⟩) M).1
 ·show mK (⟨5,[a],0⟩::_) (nI d.pre d.pnum++sr d.rev)=_;rw[X,if_pos (show(1:Int)≠0 by decide)];exact(su (p:=O) (q:=⟨5,[a],0⟩) U).2
 ·show mK (⟨5,[a],0⟩::(nI c.pre c.pnum++sr c.rev)) (⟨5,[b],0⟩::(nI d.pre d.pnum++sr d.rev))=_;have e:sn ⟨5,[a],0⟩ ⟨5,[b],0⟩=if a<b then -1 else if b<a then 1 else 0:=by
   unfold sn;simp only;rw[if_neg (by simp),if_neg (by decide),if_pos (by simp)];unfold Lib.compareBytes Lib.compareBytes;rfl
  rw[mK,e,I];by_cases z:a<b
  ·simp[z]
  ·by_cases F:b<a
   ·simp[z,F]
   ·simp[z,F]
def Wg (l:LU):List Pc:=match rz l with
 | some x=>x.1
 | none=>[]
def Hw (a b:BA):Int:=if gL 3 a≠0\/gL 3 b≠0 then 0 else mK (Wg (bl a)) (Wg (bl b))
theorem Jw {c:gQ}(ok:c.ok)(h:l=gH 3 c):Wg l=Oh c:=by
 obtain⟨x,e⟩:=Wf ok;unfold Wg;rw[h,e]
theorem Ll (x y z:Int):iz id [x,y,z]=if x≠0 then x else if y≠0 then y else z:=by
 show(if id x≠0 then id x else iz id [y,z])=_;rw[qO];rfl
theorem Wh {a b:BA}{c d:gQ}(D:c.ok)(z:d.ok)(I:gL 3 a=0)(K:gL 3 b=0)(J:bl a=gH 3 c)(M:bl b=gH 3 d)(F:c.ep=0)(H:d.ep=0):Hw a b=ti c d:=by
 unfold Hw ti;rw[if_neg (fun h=>h.elim (fun h=>h I) (fun h=>h K)),Jw D J,Jw z M];unfold Oh;rw[Tr c.nums d.nums 7 _ _ D.nums z.nums (.inr rfl) (Oi _ _ _ _) (Oi _ _ _ _),abc D z,yx _ _ _ _ D.nums z.nums,Ll,F,H,yl,if_neg (show ¬ (0:Int)≠0 by simp)]
def Wi (fmt:Int)(a b:BA):Int:=if fmt=1 then Hv a b else if fmt=2 then Hu a b else Hw a b
theorem Jx (M:iY fmt){a b:BA}{c d:gQ}(U:iR fmt c=true)(K:iR fmt d=true)(F:gL fmt a=0)(I:gL fmt b=0)(H:bl a=gH fmt c)(J:bl b=gH fmt d):Wi fmt a b=ti c d:=by
 obtain⟨z,O⟩:=rZ U;obtain⟨D,R⟩:=rZ K;unfold Wi;rcases M with rfl | rfl | rfl
 ·rw[if_pos rfl];exact Wc z D F I H J
 ·rw[if_neg (by decide),if_pos rfl];exact We z D F I H J
 ·rw[if_neg (by decide),if_neg (by decide)];exact Wh z D F I H J (O rfl) (R rfl)
theorem ZG (c:UInt8):((c.toNat:Int)==126)=decide (c=126):=by
 have:=kf (fun x=>((x.toNat:Int)==126)==decide (x=126)) (by kernel_rfl) c;simpa using this
theorem ac3 (s:BA)(h:0<s.size):iZ (bl s)=if gf s[0]=true then 0 else if ((s[0].toNat:Int)==126)=true then -1 else if ku s[0]=true then (s[0].toNat:Int) else 256+(s[0].toNat:Int):=by
 rw[mL s h];unfold iZ;rw[ZG];simp only[decide_eq_true_eq];rfl
theorem vQ (s:BA)(w:World):Calls prog 277 #[.string s] w fun e w'=>e=.returned (.int .i64 (iZ (bl s)))/\w=w':=by
 by_cases F:s.size=0
 ·have D:s.toList=[]:=by rw[fK,hZ s F]
  have E:Hid (iZ (bl s)=0):=by show _=_;rw[hZ s F];rfl
  go_in;go_wp2;go_ret;exact⟨fT E.out.symm,rfl⟩
 ·have h:0<s.size:=by omega
  have D:s.toList.isEmpty=false:=by rw[fK,gu];simpa using F
  have U:¬ s.toList=[]:=by intro h;rw[h] at D;simp at D
  have E:=fH (ac3 s h);have z:=fH fun W=>je s[0] W;have H:=fH fun W=>kw s[0] W;have V:=s[0].toNat_lt;obtain⟨O,J⟩:∃ d,gf s[0]=d:=⟨_,rfl⟩
  obtain⟨K,I⟩:∃ d,ku s[0]=d:=⟨_,rfl⟩
  obtain⟨M,R⟩:∃ d,((s[0].toNat:Int)==126)=d:=⟨_,rfl⟩
  rw[J,I,R] at E;rw[J] at z;rw[I] at H;cases O
  ·cases M
   ·cases K
    all_goals
     go_in;go_wp2_with fail;refine mb (z _) ?_;rintro w' rfl;go_wp2_with fail;refine mb (H _) ?_;rintro w' rfl;go_wp2;go_ret;exact⟨fT (by rw[E.out];simp),rfl⟩
   ·go_in;go_wp2_with fail;refine mb (z _) ?_;rintro w' rfl;go_wp2;go_ret;exact⟨fT (by rw[E.out];simp),rfl⟩
  ·go_in;go_wp2_with fail;refine mb (z _) ?_;rintro w' rfl;go_wp2;go_ret;exact⟨fT (by rw[E.out];simp),rfl⟩
theorem Tx (h:iZ (bl s)≠0):1<=s.size:=by
 rcases Nat.eq_zero_or_pos s.size with e | e
 ·exfalso;apply h;rw[hZ s e];rfl
 ·exact e
theorem ZH (s:BA){b:Bool}(h:s.toList.isEmpty=b):b=decide (s.size=0):=by rw[<-h,fK,gu]
def dpF (V:(LU×LU) ⊕ Int):(LU×LU) ⊕ Int:=match V with
 | .inr c=>.inr c
 | .inl (a,b)=>if nM (a.take (fS gf a)) (b.take (fS gf b))≠0 then .inr (nM (a.take (fS gf a)) (b.take (fS gf b))) else .inl (a.drop (fS gf a),b.drop (fS gf b))
theorem pM (x0 y0:BA)(w:World)(aj:x0.size<=1000000)(an:y0.size<=1000000):Calls prog 259 #[.string x0,.string y0] w fun e w'=>e=.returned (.int .i64 (tj (bl x0) (bl y0)))/\Bw w w':=by
 obtain⟨R,hR⟩:∃ R,tj (bl x0) (bl y0)=R:=⟨_,rfl⟩
 rw[hR];have ai:Hid (tj (bl x0) (bl y0)=R):=hR;go_in;go_wp2;go_loopw [0,1] (fun Z s1 wr=>∃ x y:BA,Z=.string x/\s1=.string y/\x.size<=1000000/\y.size<=1000000/\Hid (tj (bl x) (bl y)=R)/\Hid (Bw w wr)) (fun Z s1 _=>tD Z+tD s1)
 case atStart=>exact⟨x0,y0,rfl,rfl,aj,an,ai,bR⟩
 case round=>
  obtain⟨x,y,rfl,rfl,hx,hy,HR,O⟩:=hrel;obtain⟨ex,ap⟩:∃ b,x.toList.isEmpty=b:=⟨_,rfl⟩
  obtain⟨ey,ao⟩:∃ b,y.toList.isEmpty=b:=⟨_,rfl⟩
  have EX:=fH (ZH x ap);have EY:=fH (ZH y ao);by_cases D:ex=true/\ey=true
  ·obtain⟨rfl,rfl⟩:=D;have E:Hid (R=0):=by
    show _=_;have M:x.size=0:=dO EX.out.symm;have F:y.size=0:=dO EY.out.symm;rw[<-HR.out,hZ x M,hZ y F,yr]
   go_wp2;go_ret;exact⟨fT E.out.symm,O⟩
  have NE:Hid (¬ (bl x=[]/\bl y=[])):=by
   rintro⟨M,F⟩;apply D;rw[EX.out,EY.out];have k1:=congrArg List.length M;have k2:=congrArg List.length F;rw[fI] at k1 k2;exact⟨dT k1,dT k2⟩
  obtain⟨V,hV⟩:∃ V,uw (bl x) (bl y)=V:=⟨_,rfl⟩
  have HV:=fH hV;have DN:Hid (LE (bl x) (bl y)=dpF V):=by
   show _=_;unfold LE;rw[if_neg NE.out,hV];rcases V with⟨a,b⟩ | c<;>rfl
  have ak:(ex=false)\/(ex=true/\ey=false):=by
   cases ex
   ·exact .inl rfl
   ·cases ey
    ·exact .inr ⟨rfl,rfl⟩
    ·exact absurd ⟨rfl,rfl⟩ D
  rcases ak with rfl | ⟨rfl,rfl⟩
  all_goals
   go_wp2;go_loopw [0,1] (fun Z s1 wr=>∃ a b:BA,Z=.string a/\s1=.string b/\a.size<=x.size/\b.size<=y.size/\Hid (uw (bl a) (bl b)=V)/\Hid (Bw w wr)) (fun Z s1 _=>tD Z+tD s1)
   case atStart=>exact⟨x,y,rfl,rfl,lr,lr,HV,O⟩
   case round=>
    obtain⟨a,b,rfl,rfl,ha,hb,HV,O⟩:=hrel;have I:=fH fun W=>vQ a W;have U:=fH fun W=>vQ b W;obtain⟨H,ad⟩:∃ o,iZ (bl a)=o:=⟨_,rfl⟩
    obtain⟨ob,aa⟩:∃ o,iZ (bl b)=o:=⟨_,rfl⟩
    have A1:=fH ad;have A2:=fH aa;rw[ad] at I;rw[aa] at U;have CC:=fH fun W=>Tryz.cmp_Compare_int H ob W;obtain⟨K,af⟩:∃ c,Lib.compareInt H ob=c:=⟨_,rfl⟩
    have C1:=fH af;rw[af] at CC;by_cases hz:H=0/\ob=0
    ·obtain⟨rfl,rfl⟩:=hz;have VV:Hid (V=.inl (bl a,bl b)):=by show _=_;rw[<-HV.out,Jr A1.out A2.out]
     have hn:=jI gf (bl a);have hm:=jI gf (bl b);rw[fI] at hn hm;have R1:=fH fun W=>pX a W (by omega);have R2:=fH fun W=>pX b W (by omega);obtain⟨n,ag⟩:∃ n,fS gf (bl a)=n:=⟨_,rfl⟩
     obtain⟨m,ae⟩:∃ m,fS gf (bl b)=m:=⟨_,rfl⟩
     have N1:=fH ag;have M1:=fH ae;rw[ag] at R1 hn;rw[ae] at R2 hm;obtain⟨J,ab⟩:∃ J,nM ((bl a).take n) ((bl b).take m)=J:=⟨_,rfl⟩
     have AG:Hid (∀ W,Calls prog 262 #[.string (a.extract 0 n),.string (b.extract 0 m)] W fun e w'=>e=.returned (.int .i64 J)/\Bw W w'):=by
      intro W;rw[<-ab];exact(lZ (a.extract 0 n) (b.extract 0 m) W).mono fun e w' ⟨he,hw⟩=>⟨by rw[he,jp,jp],hw⟩
     have DD:Hid (LE (bl x) (bl y)=if J≠0 then .inr J else .inl ((bl a).drop n,(bl b).drop m)):=by
      show _=_;rw[DN.out,VV.out];unfold dpF;simp only;rw[N1.out,M1.out,ab]
     have Y:Hid ((a.extract n a.size).size=a.size-n):=iP a n;have e2:Hid ((b.extract m b.size).size=b.size-m):=iP b m;go_wp2_with fail;refine mb (I _) ?_;rintro w' rfl;go_wp2_with fail;refine mb (U _) ?_;rintro w' rfl;go_wp2_with fail;refine mb (R1 _) ?_;rintro w' rfl;go_wp2_with fail;refine mb (R2 _) ?_;rintro w' rfl;go_wp2_with fail;have Dr:Bw wr wr.drew:=bR.drew;go_still_tail 6,(by kernel_rfl)
     change wpList _ _ _ _ _ wr.drew
     have al:=fH (fM O Dr);generalize wr.drew=w2 at *;go_wp2_with fail;refine mb (AG _) ?_;rintro w3 am;have B3:=fH (fM al am);by_cases z:J≠0
     ·have qc:(J != 0)=true:=by simpa [bne] using z
      have E:Hid (R=J):=by show _=_;rw[<-HR.out,qQ (c:=J) (by rw[DD.out,if_pos z])]
      go_wp2;go_ret;exact⟨fT E.out.symm,B3⟩
     have qc:(J != 0)=false:=by rw[Decidable.not_not.1 z];rfl
     have LT:Hid (((bl a).drop n).length+((bl b).drop m).length<(bl x).length+(bl y).length):=Za (p:=((bl a).drop n,(bl b).drop m)) (by rw[DD.out,if_neg z]);have HN:Hid (tj (bl (a.extract n a.size)) (bl (b.extract m b.size))=R):=by
      show _=_;rw[<-HR.out,ux (x:=bl x) (y:=bl y) (a:=(bl a).drop n) (b:=(bl b).drop m) (by rw[DD.out,if_neg z]),ik,ik]
     go_wp2;go_quiet (fail);go_wp2;go_roundw
     case rel=>exact⟨_,_,rfl,rfl,by rw[Y.out];omega,by rw[e2.out];omega,HN,gh B3 _⟩
     case measure=>
      simp only[tD];have M:=LT.out;have F:=Y.out;have h3:=e2.out;rw[List.length_drop,List.length_drop,fI,fI,fI,fI] at M;rw[F,h3];omega
    ·have ac:H≠0\/(H=0/\ob≠0):=by
      by_cases h:H=0
      ·exact .inr ⟨h,fun F=>hz ⟨h,F⟩⟩
      ·exact .inl h
     have ST:Hid (K≠0->V=.inr K):=fun h=>by
      rw[<-HV.out,Js (by rw[A1.out,A2.out,C1.out];exact h),A1.out,A2.out,C1.out]
     have NX:Hid (K=0->uw (bl (a.extract 1 a.size)) (bl (b.extract 1 b.size))=V/\1<=a.size/\1<=b.size):=fun h=>by
      have he:H=ob:=Jq.1 (by rw[C1.out];exact h);have X:H≠0:=by
       rcases ac with k | ⟨k1,k2⟩
       ·exact k
       ·exact absurd (he.symm.trans k1) k2
      refine⟨?_,Tx (by rw[A1.out];exact X),Tx (by rw[A2.out,<-he];exact X)⟩;rw[<-HV.out,ik,ik];exact(zX (by rw[A1.out,A2.out,C1.out];exact h) (by rw[A1.out];exact X)).symm
     have W1:Hid (∀ W,Calls prog 277 #[.string a] W fun e w'=>e=.returned (.int .i64 H)/\W=w'):=I.out;have Q:((H != 0)=true)\/((H != 0)=false/\(ob != 0)=true):=by
      rcases ac with k | ⟨k1,k2⟩
      ·exact .inl (by simpa [bne] using k)
      ·exact .inr ⟨by rw[k1];rfl,by simpa [bne] using k2⟩
     by_cases z:K≠0
     ·have qc:(K != 0)=true:=by simpa [bne] using z
      have E:Hid (R=K):=by show _=_;rw[<-HR.out,qQ (c:=K) (by rw[DN.out,ST.out z];rfl)]
      rcases Q with q1 | ⟨q1,q2⟩
      ·go_wp2_with fail;refine mb (I _) ?_;rintro w' rfl;go_wp2_with fail;refine mb (I _) ?_;rintro w' rfl;go_wp2_with fail;refine mb (U _) ?_;rintro w' rfl;go_wp2_with fail;refine mb (CC _) ?_;rintro w' rfl;go_wp2;go_ret;exact⟨fT E.out.symm,O⟩
      ·go_wp2_with fail;refine mb (I _) ?_;rintro w' rfl;go_wp2_with fail;refine mb (U _) ?_;rintro w' rfl;go_wp2_with fail;refine mb (I _) ?_;rintro w' rfl;go_wp2_with fail;refine mb (U _) ?_;rintro w' rfl;go_wp2_with fail;refine mb (CC _) ?_;rintro w' rfl;go_wp2;go_ret;exact⟨fT E.out.symm,O⟩
     ·have ah:K=0:=Decidable.not_not.1 z;obtain⟨n1,z1,z2⟩:=NX.out ah;have qc:(K != 0)=false:=by rw[ah];rfl
      have N1:=fH n1;have Y:Hid ((a.extract 1 a.size).size=a.size-1):=iP a 1;have e2:Hid ((b.extract 1 b.size).size=b.size-1):=iP b 1;rcases Q with q1 | ⟨q1,q2⟩
      ·go_wp2_with fail;refine mb (I _) ?_;rintro w' rfl;go_wp2_with fail;refine mb (I _) ?_;rintro w' rfl;go_wp2_with fail;refine mb (U _) ?_;rintro w' rfl;go_wp2_with fail;refine mb (CC _) ?_;rintro w' rfl;go_wp2;go_quiet (fail);go_wp2;go_roundw
       case rel=>exact⟨_,_,rfl,rfl,by rw[Y.out];omega,by rw[e2.out];omega,N1,gh O _⟩
       case measure=>simp only[tD];have M:=Y.out;have F:=e2.out;rw[M,F];omega
      ·go_wp2_with fail;refine mb (I _) ?_;rintro w' rfl;go_wp2_with fail;refine mb (U _) ?_;rintro w' rfl;go_wp2_with fail;refine mb (I _) ?_;rintro w' rfl;go_wp2_with fail;refine mb (U _) ?_;rintro w' rfl;go_wp2_with fail;refine mb (CC _) ?_;rintro w' rfl;go_wp2;go_quiet (fail);go_wp2;go_roundw
       case rel=>exact⟨_,_,rfl,rfl,by rw[Y.out];omega,by rw[e2.out];omega,N1,gh O _⟩
       case measure=>simp only[tD];have M:=Y.out;have F:=e2.out;rw[M,F];omega
def Pc.val (x:Pc):Value:=.agg #[.int .i64 x.kind,.string ⟨x.text.toArray⟩,.int .i64 x.word]
theorem RU (p q:Pc):sn p q=if p.kind≠q.kind then Lib.compareInt p.kind q.kind
  else if p.kind=0\/p.kind=4 then Lib.compareInt p.word q.word
  else if p.kind=5\/(p.kind=6/\(jJ p.text=true\/jJ q.text=true)) then Lib.compareBytes p.text q.text
  else nM p.text q.text:=rfl
theorem Hz (p q:Pc)(w:World)(h1:p.text.length<=1000)(h2:q.text.length<=1000):Calls prog 258 #[p.val,q.val] w fun e w'=>e=.returned (.int .i64 (sn p q))/\Bw w w':=by
 have Y:=fH (RU p q);obtain⟨R,hR⟩:∃ R,sn p q=R:=⟨_,rfl⟩
 rw[hR] at Y |-;clear hR;obtain⟨k,s,i⟩:=p;obtain⟨l,t,j⟩:=q;unfold Pc.val;simp only at Y h1 h2 |-;have CK:=fH fun W=>Tryz.cmp_Compare_int k l W;have CI:=fH fun W=>Tryz.cmp_Compare_int i j W;have CS:Hid (∀ W,Calls prog 276 #[.string (gX s),.string (gX t)] W fun e w'=>e=.returned (.int .i64 (Lib.compareBytes s t))/\w'=W):=fun W=>
  (Tryz.strings_Compare (gX s) (gX t) W).mono fun e w' ⟨M,J⟩=>⟨by rw[M,show(gX s).data.toList=s from iS s,show(gX t).data.toList=t from iS t],J⟩
 have CN:Hid (∀ W,Calls prog 262 #[.string (gX s),.string (gX t)] W fun e w'=>e=.returned (.int .i64 (nM s t))/\Bw W w'):=fun W=>
  (lZ (gX s) (gX t) W).mono fun e w' ⟨M,J⟩=>⟨by rw[M,iS,iS],J⟩
 have N1:Hid (∀ W,Calls prog 215 #[.string (gX s)] W fun e w'=>e=.returned (.bool (jJ s))/\W=w'):=fun W=>
  (qu (gX s) W (by rw[iB];omega)).mono fun e w' ⟨M,J⟩=>⟨by rw[M,iS],J⟩
 have N2:Hid (∀ W,Calls prog 215 #[.string (gX t)] W fun e w'=>e=.returned (.bool (jJ t))/\W=w'):=fun W=>
  (qu (gX t) W (by rw[iB];omega)).mono fun e w' ⟨M,J⟩=>⟨by rw[M,iS],J⟩
 change Calls _ _ #[.agg #[.int .i64 k,.string (gX s),.int .i64 i],.agg #[.int .i64 l,.string (gX t),.int .i64 j]] w _
 generalize Lib.compareInt k l=c1 at *;generalize Lib.compareInt i j=c2 at *;generalize Lib.compareBytes s t=c3 at *;generalize nM s t=c4 at *;generalize jJ s=n1 at *;generalize jJ t=n2 at *;generalize gX s=S at *;generalize gX t=T at *;clear h1 h2;have H:Hid (Bw w ((w.alloc (.cells #[.int .i64 k,.string S,.int .i64 i] 310)).alloc (.cells #[.int .i64 l,.string T,.int .i64 j] 310))):=(bR.alloc lr _).alloc (by simp) _;by_cases X:k≠l
 ·have q:(k != l)=true:=by simpa [bne] using X
  have E:Hid (R=c1):=by show _=_;rw[Y.out,if_pos X]
  clear X;go_in;go_wp2_with fail;refine mb (CK _) ?_;rintro w' rfl;go_wp2;go_ret;exact⟨fT E.out.symm,H⟩
 obtain rfl:k=l:=Decidable.not_not.1 X;clear X;have D:Hid (R=if k=0\/k=4 then c2 else if k=5\/(k=6/\(n1=true\/n2=true)) then c3 else c4):=by show _=_;rw[Y.out,if_neg (by simp)]
 clear Y CK;have q:(k != k)=false:=by simp
 by_cases I:k=0
 ·have q0:(k==0)=true:=by simp[I]
  have E:Hid (R=c2):=by show _=_;rw[D.out,if_pos (.inl I)]
  clear I;go_in;go_wp2_with fail;refine mb (CI _) ?_;rintro w' rfl;go_wp2;go_ret;exact⟨fT E.out.symm,H⟩
 have q0:(k==0)=false:=by simpa using I
 by_cases O:k=4
 ·have q4:(k==4)=true:=by simp[O]
  have E:Hid (R=c2):=by show _=_;rw[D.out,if_pos (.inr O)]
  clear I O;go_in;go_wp2_with fail;refine mb (CI _) ?_;rintro w' rfl;go_wp2;go_ret;exact⟨fT E.out.symm,H⟩
 have q4:(k==4)=false:=by simpa using O
 have z:Hid (R=if k=5\/(k=6/\(n1=true\/n2=true)) then c3 else c4):=by show _=_;rw[D.out,if_neg (fun h=>h.elim I O)]
 clear D CI I O;by_cases F:k=5
 ·have q5:(k==5)=true:=by simp[F]
  have E:Hid (R=c3):=by show _=_;rw[z.out,if_pos (.inl F)]
  clear F;go_in;go_wp2_with fail;refine mb (CS _) ?_;rintro w' rfl;go_wp2;go_ret;exact⟨fT E.out.symm,H⟩
 have q5:(k==5)=false:=by simpa using F
 by_cases U:k=6
 ·have q6:(k==6)=true:=by simp[U]
  have K:Hid (R=if n1=true\/n2=true then c3 else c4):=by
   show _=_;rw[z.out];by_cases Z:n1=true\/n2=true
   ·rw[if_pos Z,if_pos (.inr ⟨U,Z⟩)]
   ·rw[if_neg Z,if_neg (fun h=>h.elim F (fun h=>Z h.2))]
  clear F U z;cases n1
  ·cases n2
   ·have E:Hid (R=c4):=by show _=_;rw[K.out];simp
    go_in;go_wp2_with fail;refine mb (N1 _) ?_;rintro w' rfl;go_wp2_with fail;refine mb (N2 _) ?_;rintro w' rfl;go_wp2_with fail;refine mb (CN _) ?_;rintro w' V;have B3:=fH (fM H V);clear V;go_wp2;go_ret;exact⟨fT E.out.symm,B3⟩
   ·have E:Hid (R=c3):=by show _=_;rw[K.out];simp
    go_in;go_wp2_with fail;refine mb (N1 _) ?_;rintro w' rfl;go_wp2_with fail;refine mb (N2 _) ?_;rintro w' rfl;go_wp2_with fail;refine mb (CS _) ?_;rintro w' rfl;go_wp2;go_ret;exact⟨fT E.out.symm,H⟩
  ·have E:Hid (R=c3):=by show _=_;rw[K.out];simp
   go_in;go_wp2_with fail;refine mb (N1 _) ?_;rintro w' rfl;go_wp2_with fail;refine mb (CS _) ?_;rintro w' rfl;go_wp2;go_ret;exact⟨fT E.out.symm,H⟩
 ·have q6:(k==6)=false:=by simpa using U
  have E:Hid (R=c4):=by show _=_;rw[z.out,if_neg (fun h=>h.elim F (fun h=>U h.1))]
  clear F U z;go_in;go_wp2_with fail;refine mb (CN _) ?_;rintro w' V;have B3:=fH (fM H V);clear V;go_wp2;go_ret;exact⟨fT E.out.symm,B3⟩
theorem WB (p q:Pc)(z D:List Pc):mK (p::z) (q::D)=if sn p q≠0 then sn p q else mK z D:=rfl
theorem Lr {α:Type}{l:List α}{x:α}(h:l[k]?=some x):l.drop k=x::l.drop (k+1):=by
 obtain⟨z,e⟩:=gS h;rw[List.drop_eq_getElem_cons z,e]
theorem BV (f:FuncId)(A B:OA)(c d:Nat)(D z:List Pc)(w:World)(h1:Rd w 3 A D.length (D.flatMap Pc.cells))(h2:Rd w 3 B z.length (z.flatMap Pc.cells))(hl:D.length<=1000000)(hm:z.length<=1000000)
  (hcall:∀ (args:Array Value)(w:World),(callFunc f args).run prog w=.ok (.enter f args) w)
  (hf:Hid (∀ p∈D,∀ q∈z,∀ W,Calls prog f #[p.val,q.val] W fun e w'=>e=.returned (.int .i64 (sn p q))/\Bw W w')):Calls prog 257 #[.slice A D.length c,.slice B z.length d,.func (.func f) #[] #[]] w fun e w'=>e=.returned (.int .i64 (mK D z))/\Bw w w':=by
 have H1:=fH h1;have H2:=fH h2;obtain⟨R,hR⟩:∃ R,mK D z=R:=⟨_,rfl⟩
 rw[hR];have O:Hid (mK (D.drop 0) (z.drop 0)=R):=hR;clear hR h1 h2;go_in;go_wp2;go_loopw [13] (fun i wr=>∃ k:Nat,k<=D.length/\k<=z.length/\i=.int .i64 k/\Hid (mK (D.drop k) (z.drop k)=R)/\Hid (Bw w wr)) (fun i _=>D.length-(intOf i).toNat)
 case atStart=>exact⟨0,z0,z0,rfl,O,bR⟩
 case round=>
  clear O;obtain⟨k,hk,af,rfl,HR,I⟩:=hrel;by_cases M:k<D.length
  ·obtain⟨x,hx⟩:∃ x,D[k]?=some x:=⟨_,gG M⟩
   obtain⟨b,off,hA,he⟩:=(H1.below I).elem J4 k x hx;obtain⟨e0,e1,e2⟩:=qj he;simp only[Nat.add_zero] at e0;have aa:=fun W=>gi (T:=256) (E:=310) (sz:=3) (c:=c) underlying256 rfl sizeOf310 hA M W;have HX:=fH hx;have DX:=fH (Lr hx);clear hx hA he;by_cases F:k<z.length
   ·obtain⟨y,K⟩:∃ y,z[k]?=some y:=⟨_,gG F⟩
    obtain⟨b2,ae,X,Y⟩:=(H2.below I).elem J4 k y K;obtain⟨f0,f1,f2⟩:=qj Y;simp only[Nat.add_zero] at f0;have ab:=fun W=>gi (T:=256) (E:=310) (sz:=3) (c:=d) underlying256 rfl sizeOf310 X F W;have DY:=fH (Lr K);have U:=fH (hf x (gM HX) y (gM K));have ad:b2<wr.heap.size:=World.block_lt_of_cell? _ _ f0;have ac:¬ b2=wr.heap.size:=by omega
    have RR:Hid (R=if sn x y≠0 then sn x y else mK (D.drop (k+1)) (z.drop (k+1))):=by
     show _=_;rw[<-HR.out,DX.out,DY.out,WB]
    obtain⟨J,V⟩:∃ J,sn x y=J:=⟨_,rfl⟩
    rw[V] at RR U;unfold Pc.val at U;clear K X Y V;obtain⟨xk,xt,xw⟩:=x;obtain⟨yk,yt,yw⟩:=y;simp only at U e0 e1 e2 f0 f1 f2;go_wp2_with fail;refine mb (U _) ?_;rintro w1 Z;have B1:Hid (Bw w w1):=fM I (fM (((Below.refl wr.heap.size wr).alloc lr _).alloc (by simp) _) Z);clear Z e0 e1 e2 f0 f1 f2 aa ab U ad ac;by_cases H:J≠0
    ·have qc:(J != 0)=true:=by simpa [bne] using H
     have E:Hid (R=J):=by show _=_;rw[RR.out,if_pos H]
     clear H;go_wp2;go_ret;exact⟨fT E.out.symm,B1⟩
    ·have qc:(J != 0)=false:=by rw[Decidable.not_not.1 H];rfl
     have E:Hid (mK (D.drop (k+1)) (z.drop (k+1))=R):=by show _=_;rw[RR.out,if_neg H]
     clear H;go_wp2;go_roundw
     case rel=>exact⟨k+1,by omega,by omega,by go_num,E,B1⟩
     case measure=>simp[intOf];omega
   ·have E:Hid (R=1):=by show _=_;rw[<-HR.out,DX.out,List.drop_eq_nil_of_le (show z.length<=k by omega)];rfl
    have q:decide (z.length<=k)=true:=dT (by omega);obtain rfl:k=z.length:=by omega
    have B1:Hid (Bw w (wr.alloc (.cells x.cells.toArray 310))):=I.alloc I.size _;go_wp2;go_ret;exact⟨fT E.out.symm,B1⟩
  ·obtain rfl:k=D.length:=by omega
   by_cases F:D.length<z.length
   ·have E:Hid (R=-1):=by
     show _=_;rw[<-HR.out,List.drop_length];obtain⟨y,K⟩:∃ y,z[D.length]?=some y:=⟨_,gG F⟩
     rw[Lr K];rfl
    go_wp2;go_ret;exact⟨fT E.out.symm,I⟩
   ·have E:Hid (R=0):=by show _=_;rw[<-HR.out,List.drop_length,List.drop_eq_nil_of_le (by omega)];rfl
    go_wp2;go_ret;exact⟨fT E.out.symm,I⟩
theorem Ca (f:FuncId)(O Z:Value)(p:fP->Bool)(A:OA)(c:Nat)(l:List fP)(w:World)(V:Rd w 3 A l.length (l.flatMap fP.cells))(hl:l.length<=1000000)
  (hcall:∀ (args:Array Value)(w:World),(callFunc f args).run prog w=.ok (.enter f args) w)
  (hf:Hid (∀ g∈l,∀ W,Bw w W->Calls prog f #[g.val,O,Z] W fun e w'=>e=.returned (.bool (p g))/\Bw W w')):Calls prog 211 #[.slice A l.length c,.func (.func f) #[] #[O,Z]] w fun e w'=>e=.returned (.int .i64 (zL p l 0))/\Bw w w':=by
 have HR:=fH V;clear V;go_in;go_wp2;go_loopw [8] (fun i wr=>∃ k:Nat,k<=l.length/\i=.int .i64 k/\Hid (∀ y∈l.take k,p y=false)/\Hid (Bw w wr)) (fun i _=>l.length-(intOf i).toNat)
 case atStart=>exact⟨0,z0,rfl,by simp[Hid],bR⟩
 case round=>
  obtain⟨k,hk,rfl,M,H⟩:=hrel;by_cases D:k<l.length
  ·obtain⟨x,I⟩:∃ x,l[k]?=some x:=⟨_,gG D⟩
   obtain⟨b,off,U,Y⟩:=(HR.below H).elem kt k x I;obtain⟨R,e1,e2⟩:=qj Y;simp only[Nat.add_zero] at R;have J:=fun W=>gi (T:=34) (E:=78) (sz:=3) (c:=c) underlying34 rfl sizeOf78 U D W;have HX:=fH I;have K:=fH (fun W hb=>hf.out x (gM I) W hb);unfold fP.val at K;clear I U Y;go_wp2_with fail;refine mb (K _ H) ?_;rintro w1 F;have X:=fH (fM H F);clear F R e1 e2 J K;cases hp:p x
   ·have HP:=fH hp;clear hp;go_wp2;go_roundw
    case rel=>exact⟨k+1,by omega,by go_num,fH (fun y z=>by
     rw[gC HX.out] at z;rcases List.mem_append.1 z with z | z
     ·exact M.out y z
     ·rw[List.mem_singleton.1 z];exact HP.out),X⟩
    case measure=>simp[intOf];omega
   ·have E:Hid (zL p l 0=k):=by show _=_;rw[yc HX.out M.out hp];omega
    clear hp;go_wp2;go_ret;exact⟨fT E.out.symm,X⟩
  ·have E:Hid (zL p l 0=-1):=si 0 (fun y z=>M.out y (by rw[tL (by omega)];exact z));go_wp2;go_ret;exact⟨fT E.out.symm,H⟩
theorem wO (f:FuncId)(D F:Value)(p:fP->Bool)(A:OA)(c:Nat)(l:List fP)(w:World)(I:Rd w 3 A l.length (l.flatMap fP.cells))(J:l.length<=1000000)
  (hcall:∀ (args:Array Value)(w:World),(callFunc f args).run prog w=.ok (.enter f args) w)
  (H:Hid (∀ g∈l,∀ W,Bw w W->Calls prog f #[g.val,D,F] W fun e w'=>e=.returned (.bool (p g))/\Bw W w')):Calls prog 159 #[.slice A l.length c,.func (.func f) #[] #[D,F]] w fun e w'=>e=.returned (.bool (l.any p))/\Bw w w':=by
 have O:=fH (Ca f D F p A c l w I J hcall H);have M:=fH (uZ p l 0 (by omega));generalize zL p l 0=ix at *;clear I H;go_in;go_wp2_with fail;refine O.mono ?_;rintro e R ⟨rfl,z⟩;have K:=fH z;clear z;go_wp2;go_ret;exact⟨fJ M,K⟩
theorem Gn (f:FuncId)(O:Value)(p:iK->Bool)(A:OA)(c:Nat)(l:List iK)(w:World)(V:Rd w 5 A l.length (l.flatMap iK.cells))(hl:l.length<=1000000)
  (hcall:∀ (args:Array Value)(w:World),(callFunc f args).run prog w=.ok (.enter f args) w)
  (hf:Hid (∀ g∈l,∀ W,Bw w W->Calls prog f #[g.val,O] W fun e w'=>e=.returned (.bool (p g))/\Bw W w')):Calls prog 155 #[.slice A l.length c,.func (.func f) #[] #[O]] w fun e w'=>e=.returned (.int .i64 (zL p l 0))/\Bw w w':=by
 have HR:=fH V;clear V;go_in;go_wp2;go_loopw [8] (fun i wr=>∃ k:Nat,k<=l.length/\i=.int .i64 k/\Hid (∀ y∈l.take k,p y=false)/\Hid (Bw w wr)) (fun i _=>l.length-(intOf i).toNat)
 case atStart=>exact⟨0,z0,rfl,by simp[Hid],bR⟩
 case round=>
  obtain⟨k,hk,rfl,M,H⟩:=hrel;by_cases D:k<l.length
  ·obtain⟨x,I⟩:∃ x,l[k]?=some x:=⟨_,gG D⟩
   obtain⟨b,off,U,Y⟩:=(HR.below H).elem Cj k x I;obtain⟨R,e1,e2,e3,e4⟩:=rF Y;simp only[Nat.add_zero] at R;have J:=fun W=>gi (T:=198) (E:=196) (sz:=5) (c:=c) underlying198 rfl sizeOf196 U D W;have Z:=fH I;have K:=fH (fun W hb=>hf.out x (gM I) W hb);unfold iK.val at K;clear I U Y;go_wp2_with fail;refine mb (K _ H) ?_;rintro w1 F;have X:=fH (fM H F);clear F R e1 e2 e3 e4 J K;cases hp:p x
   ·have HP:=fH hp;clear hp;go_wp2;go_roundw
    case rel=>exact⟨k+1,by omega,by go_num,fH (fun y z=>by
     rw[gC Z.out] at z;rcases List.mem_append.1 z with z | z
     ·exact M.out y z
     ·rw[List.mem_singleton.1 z];exact HP.out),X⟩
    case measure=>simp[intOf];omega
   ·have E:Hid (zL p l 0=k):=by show _=_;rw[yc Z.out M.out hp];omega
    clear hp;go_wp2;go_ret;exact⟨fT E.out.symm,X⟩
  ·have E:Hid (zL p l 0=-1):=si 0 (fun y z=>M.out y (by rw[tL (by omega)];exact z));go_wp2;go_ret;exact⟨fT E.out.symm,H⟩
theorem yH (f:FuncId)(D:Value)(p:iK->Bool)(A:OA)(c:Nat)(l:List iK)(w:World)(H:Rd w 5 A l.length (l.flatMap iK.cells))(I:l.length<=1000000)
  (hcall:∀ (args:Array Value)(w:World),(callFunc f args).run prog w=.ok (.enter f args) w)
  (F:Hid (∀ g∈l,∀ W,Bw w W->Calls prog f #[g.val,D] W fun e w'=>e=.returned (.bool (p g))/\Bw W w')):Calls prog 100 #[.slice A l.length c,.func (.func f) #[] #[D]] w fun e w'=>e=.returned (.bool (l.any p))/\Bw w w':=by
 have M:=fH (Gn f D p A c l w H I hcall F);have K:=fH (uZ p l 0 (by omega));generalize zL p l 0=ix at *;clear H F;go_in;go_wp2_with fail;refine M.mono ?_;rintro e O ⟨rfl,z⟩;have J:=fH z;clear z;go_wp2;go_ret;exact⟨fJ K,J⟩
end
end Go.Proofs.YtkmjcombhjombaaGreatDoor
