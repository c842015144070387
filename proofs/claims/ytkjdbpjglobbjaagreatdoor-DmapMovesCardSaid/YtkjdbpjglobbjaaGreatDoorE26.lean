/- A part of the proof of a law on dependencies in three formats. No condition. -/
import Derived.Test.YtkjdbpjglobbjaaGreatDoorE18
set_option maxRecDepth 100000
set_option maxHeartbeats 20000000
set_option linter.unusedVariables false
set_option linter.unusedSimpArgs false
namespace Go.Proofs.YtkjdbpjglobbjaaGreatDoor
section
open Go.RowKit
structure bG where
 ep:Nat
 na:Option Addr
 nc:Nat
 nums:List Nat
 lt:BA
 pre:BA
 pnum:Nat
 rev:Nat
def bG.plain (c:bG):aT:=⟨c.ep,c.nums,bl c.lt,bl c.pre,c.pnum,c.rev⟩
def bZ (l:List Nat):List Value:=l.map fun (n:Nat)=>Value.int .i64 (n:Int)
def bG.cells (c:bG):List Value:=[.int .i64 c.ep,.slice c.na c.nums.length c.nc,.string c.lt,.string c.pre,.int .i64 c.pnum,.int .i64 c.rev]
def bG.val (c:bG):Value:=.agg #[.int .i64 c.ep,.slice c.na c.nums.length c.nc,.string c.lt,.string c.pre,.int .i64 c.pnum,.int .i64 c.rev]
def bG.ok (c:bG)(w:World):Prop:=Rd w 1 c.na c.nums.length (bZ c.nums)
structure bG.few (c:bG):Prop where
 ep:c.ep≤4611686018427387903
 each:∀ n∈c.nums,n≤4611686018427387903
 len:c.nums.length≤1000
 lt:c.lt.size≤1000
 pre:c.pre.size≤1000
 pnum:c.pnum≤4611686018427387903
 rev:c.rev≤4611686018427387903
theorem Rd.num {w:World}{A:Option Addr}{l:List Nat}(h:Rd w 1 A l.length (bZ l))(i:Nat)(x:Nat)(hi:l[i]?=some x):
  ∃ b off,A=some ⟨b,off,none⟩∧w.cell? ⟨b,off+i,none⟩=some (.int .i64 x):=by
 have hlt:i<l.length:=(gS hi).1
 obtain⟨b,off,e,hc⟩:=h.2 (by omega)
 exact⟨b,off,e,hc i _ (by simp[bZ,hi])⟩
theorem wZ:∀ (L:List Nat),(∀ n∈L,n≤4611686018427387903)→(bE 46 (L.map aC)).length≤20*L.length
 | [],_=>by simp[bE]
 | [n],h=>by
  have:=lR 18 n (by have:=h n (by simp);omega)
  simp[bE];omega
 | n::m::L,h=>by
  have h1:=lR 18 n (by have:=h n (by simp);omega)
  have h2:=wZ (m::L) (fun x hx=>h x (List.mem_cons_of_mem _ hx))
  simp only[List.map_cons,bE,List.length_append,List.length_cons] at h2 ⊢
  omega
theorem RJ {p:Prop} [Decidable p](h:false=!decide p):p:=by
 cases hd:decide p with
 | true=>exact dO hd
 | false=>rw[hd] at h;cases h
theorem OV {p:Prop} [Decidable p](h:true=!decide p):¬ p:=by
 cases hd:decide p with
 | false=>exact of_decide_eq_false hd
 | true=>rw[hd] at h;cases h
theorem FH (a b:BA):(a++b).size=a.size+b.size:=ByteArray.size_append
structure Dm (w wr:World) (c:bG) (l:LU):Prop where
 bel:Below w.heap.size w wr
 box:aF wr w.heap.size c.cells
 bld:TF wr (w.heap.size+1) (w.heap.size+1) l
 sz:w.heap.size+1<wr.heap.size
theorem TF.below {w w':World}{B b:Nat}{l:LU}(h:TF w B b l)(hb:Below w.heap.size w w'):TF w' B b l:=by
 have key:∀ p,Lib.BuilderAt 172 5 B b p (Lib.byteCells l) w→Lib.BuilderAt 172 5 B b p (Lib.byteCells l) w':=by
  rintro p ⟨h1,v,h2,h3,h4⟩
  have hlt:b<w.heap.size:=(Array.getElem?_eq_some_iff.1 h2).1
  exact⟨h1,v,(hb.block b hlt).trans h2,aR h3 hb,h4⟩
 rcases h with h | h
 ·exact .inl (key _ h)
 ·exact .inr (key _ h)
theorem Dm.step {w wr w':World}{c:bG}{l:LU}(h:Dm w wr c l)(hb:Below wr.heap.size wr w'):Dm w w' c l:=
 ⟨ah h.bel hb,h.box.below hb,h.bld.below hb,Nat.lt_of_lt_of_le h.sz hb.size⟩
theorem Dm.write {w wr w':World}{c:bG}{l l':LU}(h:Dm w wr c l)(hb:Below (w.heap.size+1) wr w')(hl:TF w' (w.heap.size+1) (w.heap.size+1) l'):Dm w w' c l':=
 ⟨h.bel.trans (hb.mono (Nat.le_succ _)),h.box.belowN hb (Nat.lt_succ_self _),hl,Nat.lt_of_lt_of_le h.sz hb.size⟩
theorem Dm.start (w:World)(c:bG):Dm w ((w.alloc (.cells #[.int .i64 c.ep,.slice c.na c.nums.length c.nc,.string c.lt,.string c.pre,.int .i64 c.pnum,.int .i64 c.rev] 95)).alloc (.cells #[.pointer none,.slice none 0 0] 172)) c []:=by
 refine⟨(bR.alloc lr _).alloc (by simp) _,(aF.new w c.cells _).alloc _,.inl ⟨lr,.slice none 0 0,?_,World.ownsRow_nil _ _ _ _,by simp[Value.ownBlock]⟩,by simp⟩
 have:=heap_alloc_new (w.alloc (.cells #[.int .i64 c.ep,.slice c.na c.nums.length c.nc,.string c.lt,.string c.pre,.int .i64 c.pnum,.int .i64 c.rev] 95)) (.cells #[.pointer none,.slice none 0 0] 172)
 simpa using this
theorem Dm.put {w wr:World}{c:bG}{l:LU}(h:Dm w wr c l)(s:BA)(hs:l.length+s.size≤1000000):
  Calls Tryz.prog 102 #[.pointer (some ⟨w.heap.size+1,0,none⟩),.string s] wr fun e w'=>e=.returned (.tuple #[.int .i64 s.size,.nilIface])∧Dm w w' c (l++bl s)∧Below (w.heap.size+1) wr w':=
 (wY (w.heap.size+1) (w.heap.size+1) l s wr h.bld hs (Nat.le_of_lt h.sz)).mono fun _ _ ⟨he,hl,hb⟩=>⟨he,h.write hb hl,hb⟩
theorem Bd (fmt:Int)(c:bG)(w:World)(hG:Hr w)(hc:c.ok w)(hf:c.few):
  Calls Tryz.prog 77 #[.int .i64 fmt,c.val] w fun e w'=>e=.returned (.string ⟨(aN fmt c.plain).toArray⟩)∧Below w.heap.size w w':=by
 have HG:=ae hG;have HC:=ae hc;have HF:=ae hf
 clear hG hc hf
 have T0:=ae (Dm.start w c)
 obtain⟨W0,hW0⟩:∃ W0,(w.alloc (.cells #[.int .i64 c.ep,.slice c.na c.nums.length c.nc,.string c.lt,.string c.pre,.int .i64 c.pnum,.int .i64 c.rev] 95)).alloc (.cells #[.pointer none,.slice none 0 0] 172)=W0:=⟨_,rfl⟩
 have HW0:=ae hW0;clear hW0
 have lp:=(jC HF.out.ep);have lq:=(jC HF.out.pnum);have lr':=(jC HF.out.rev)
 unfold bG.val
 go_enter Tryz.func77,Tryz.ntmps77
 go_wp2_with fail
 refine(wj fmt _).mono ?_;rintro e w' ⟨rfl,rfl⟩
 go_upto_region 3 with(fail)
 rw[HW0.out]
 have T1:Hid (Dm w W0 c []):=by show Dm _ _ _ _;rw[←HW0.out];exact T0.out
 clear T0 HW0
 go_cut [20] (fun s wx=>∃ bb:Bool,s=.bool bb∧Hid (bb=!decide (fmt=3∨c.ep=0))∧wx=W0)
 case first=>
  have k0:=T1.out.box.cell 0 _ rfl
  by_cases h3:fmt=3
  ·have q:(fmt != 3)=false:=by simp[h3]
   have E:Hid (false=!decide (fmt=3∨c.ep=0)):=by show _=_;simp[h3]
   clear h3
   go_wp2_with fail
   go_meet
   exact⟨false,rfl,E,rfl⟩
  ·have q:(fmt != 3)=true:=by simp[h3]
   by_cases h0:c.ep=0
   ·have q0:((c.ep:Int) != 0)=false:=by simp[h0]
    have E:Hid (false=!decide (fmt=3∨c.ep=0)):=by show _=_;simp[h0]
    clear h3 h0
    go_wp2_with fail
    go_meet
    exact⟨false,rfl,E,rfl⟩
   ·have q0:((c.ep:Int) != 0)=true:=by simp[h0]
    have E:Hid (true=!decide (fmt=3∨c.ep=0)):=by show _=_;simp[h0,h3]
    clear h3 h0
    go_wp2_with fail
    go_meet
    exact⟨true,rfl,E,rfl⟩
 case rest=>
 obtain⟨bb,rfl,HBB,rfl⟩:=hcut
 go_upto_if 20 with(fail)
 go_cut [20] (fun s wx=>s=.bool bb∧Hid (Dm w wx c (iE fmt c.plain)))
 case first=>
  cases bb
  ·have E:Hid (iE fmt c.plain=[]):=by
    show _=_;unfold iE;rw[if_pos (show fmt=3∨c.plain.ep=0 from RJ HBB.out)]
   go_wp2_with fail
   go_meet
   exact⟨rfl,by rw[E.out];exact T1⟩
  ·have E:Hid (iE fmt c.plain=bl (gO c.ep++⟨#[58]⟩)):=by
    show _=_;unfold iE;rw[if_neg (show ¬ (fmt=3∨c.plain.ep=0) from OV HBB.out),bg,ii];rfl
   have k0:=T1.out.box.cell 0 _ rfl
   go_wp2_with fail
   refine(oy c.ep _ (HG.out.below T1.out.bel) HF.out.ep).mono ?_;rintro e w1 ⟨rfl,hb1⟩
   have T2:=ae (T1.out.step hb1)
   clear hb1 k0
   have hsz:(gO c.ep++⟨#[58]⟩:BA).size≤20:=by rw[FH];have:(⟨#[58]⟩:BA).size=1:=rfl;omega
   go_wp2_with fail
   refine(T2.out.put _ (by rw[List.length_nil];omega)).mono ?_;rintro e w2 ⟨rfl,hT3,hb3⟩
   have T3:=ae hT3
   clear hT3 hb3
   go_wp2_with fail
   go_meet
   exact⟨rfl,by rw[E.out];simpa using T3⟩
 case rest=>
 obtain⟨rfl,T2⟩:=hcut
 clear T1 HBB
 have k1:=T2.out.box.cell 1 _ rfl
 have hlen:=HF.out.len
 have epl:(iE fmt c.plain).length≤20:=by
  unfold iE;split
  ·simp
  ·rw[List.length_append];have:=af (gO c.plain.ep);rw[ii] at this;have h2:(gO c.plain.ep).size≤19:=lp;simp;omega
 go_wp2_with fail
 go_loopw [29] (fun i wr=>∃ k:Nat,k≤c.nums.length∧i=.int .i64 k∧Hid (Dm w wr c (iE fmt c.plain++bE 46 ((c.nums.take k).map aC)))) (fun i _=>c.nums.length-(intOf i).toNat)
 case atStart=>exact⟨0,z0,rfl,ae (by simpa [bE] using T2.out)⟩
 case round=>
  clear T2 k1
  obtain⟨k,hk,rfl,T3⟩:=hrel
  have hjl:=wZ (c.nums.take k) (fun n hn=>HF.out.each n (List.mem_of_mem_take hn))
  rw[List.length_take] at hjl
  by_cases hlt:k<c.nums.length
  ·obtain⟨x,hx⟩:∃ x,c.nums[k]?=some x:=⟨_,gG hlt⟩
   have hxs:=HF.out.each x (gM hx)
   have lx:=jC hxs
   have HX:=ae hx
   have TK:Hid ((c.nums.take (k+1)).map aC=(c.nums.take k).map aC++[aC x]):=by
    show _=_;obtain⟨hk',hx'⟩:=gS hx;rw[tS hk',hx'];simp
   go_upto_if 33 with(fail)
   go_cut [29] (fun s wx=>s=.int .i64 k∧Hid (Dm w wx c (iE fmt c.plain++(if (c.nums.take k).map aC=[] then [] else bE 46 ((c.nums.take k).map aC)++[46]))))
   case first=>
    by_cases k0:0<k
    rotate_left
    ·have d1:decide ((0:Int)<(k:Int))=false:=dF (by omega)
     have d2:decide (0<k)=false:=dF k0
     have E:Hid (iE fmt c.plain++(if (c.nums.take k).map aC=[] then [] else bE 46 ((c.nums.take k).map aC)++[46])=iE fmt c.plain++bE 46 ((c.nums.take k).map aC)):=by show _=_;(obtain rfl:k=0:=by omega);rfl
     go_wp2_with fail
     go_meet
     exact⟨rfl,by rw[E.out];exact T3⟩
    ·have d1:decide ((0:Int)<(k:Int))=true:=dT (by omega)
     have d2:decide (0<k)=true:=dT (by omega)
     have E:Hid (iE fmt c.plain++(if (c.nums.take k).map aC=[] then [] else bE 46 ((c.nums.take k).map aC)++[46])=iE fmt c.plain++bE 46 ((c.nums.take k).map aC)++bl ⟨#[46]⟩):=by
      show _=_
      rw[if_neg (by intro e;have:=congrArg List.length e;rw[List.length_map,List.length_take,List.length_nil] at this;omega),List.append_assoc];rfl
     go_wp2_with fail
     refine(T3.out.put ⟨#[46]⟩ (by rw[List.length_append];have h46:(⟨#[46]⟩:BA).size=1:=rfl;have:=Nat.min_le_right k c.nums.length;omega)).mono ?_;rintro e w2 ⟨rfl,hT4,hb4⟩
     have T4:=ae hT4
     clear hT4 hb4
     go_wp2_with fail
     go_meet
     exact⟨rfl,by rw[E.out];exact T4⟩
   case rest=>
   obtain⟨rfl,T4⟩:=hcut
   clear T3
   have k1:=T4.out.box.cell 1 _ rfl
   obtain⟨b,off,hA,he⟩:=(Rd.below HC.out T4.out.bel).num k x hx
   have hix:=fun W=>aH (T:=93) (E:=3) (sz:=1) (c:=c.nc) Tryz.underlying93 rfl Tryz.sizeOf3 hA hlt W
   simp only[Nat.mul_one] at hix
   clear hx hA
   go_wp2_with fail
   refine(oy x _ (HG.out.below T4.out.bel) hxs).mono ?_;rintro e w1 ⟨rfl,hb1⟩
   have T5:=ae (T4.out.step hb1)
   clear hb1 k1 he hix
   go_wp2_with fail
   refine(T5.out.put (gO x) (by
    rw[List.length_append]
    have:(if (c.nums.take k).map aC=[] then [] else bE 46 ((c.nums.take k).map aC)++[46]).length≤20*min k c.nums.length+1:=by
     split
     ·simp
     ·rw[List.length_append,List.length_singleton];omega
    have:=Nat.min_le_right k c.nums.length
    omega)).mono ?_;rintro e w2 ⟨rfl,hT6,hb6⟩
   have T6:=ae hT6
   clear hT6 hb6
   go_wp2_with fail
   go_roundw
   case rel=>exact⟨k+1,by omega,by go_num,ae (by rw[TK.out,my,←List.append_assoc,←ii x];exact T6.out)⟩
   case measure=>simp[intOf];omega
  ·have E:Hid (iE fmt c.plain++bE 46 ((c.nums.take k).map aC)=iE fmt c.plain++fC c.plain):=by
    show _=_;unfold fC;rw[tL (by omega)];rfl
   rw[E.out] at T3
   have nl:(fC c.plain).length≤20*c.nums.length:=wZ c.nums HF.out.each
   have ltz:=HF.out.lt;have prz:=HF.out.pre
   have k2:=T3.out.box.cell 2 _ rfl
   go_wp2_with fail
   refine(T3.out.put c.lt (by rw[List.length_append];omega)).mono ?_;rintro e w2 ⟨rfl,hT4,hb4⟩
   have T4:=ae hT4
   clear hT4 hb4 k2
   have sg1:(fa fmt).size=1:=rfl
   have ds2:(gZ fmt).size≤2:=by unfold gZ bK;split<;>decide
   have k3:=T4.out.box.cell 3 _ rfl
   obtain⟨pb,hpb⟩:∃ pb,c.pre.toList.isEmpty=pb:=⟨_,rfl⟩
   go_upto_if 48 with(fail)
   have HPB:=ae hpb;clear hpb
   go_cut [20] (fun s wx=>s=.bool bb∧Hid (Dm w wx c (iE fmt c.plain++fC c.plain++bl c.lt++bM fmt c.plain)))
   case first=>
    cases pb
    rotate_left
    ·have p0:c.pre.size=0:=by have:=HPB.out;rw[ai,aL] at this;exact dO this
     have E:Hid (bM fmt c.plain=[]):=by show _=_;unfold bM;rw[if_pos (show c.plain.pre=[] from bj c.pre p0)]
     clear p0
     go_wp2_with fail
     go_meet
     exact⟨rfl,by rw[E.out,List.append_nil];exact T4⟩
    ·have he1:¬ c.pre.toList=[]:=by intro h;have:=HPB.out;rw[h] at this;simp at this
     have E:Hid (bM fmt c.plain=bl (fa fmt++c.pre++gO c.pnum)):=by
      show _=_;unfold bM;rw[if_neg (show ¬ c.plain.pre=[] by show ¬ bl c.pre=[];rw[←ai];exact he1),bg,bg,ii];rfl
     clear he1
     have k4:=T4.out.box.cell 4 _ rfl
     have sz1:(fa fmt++c.pre).size≤1001:=by rw[FH];omega
     have sz2:(fa fmt++c.pre++gO c.pnum).size≤1020:=by rw[FH];omega
     have q1:=fun W=>run_string_add_sum (P:=Tryz.prog) (w:=W) (fa fmt) c.pre (by omega)
     have q2:=fun W=>run_string_add_sum (P:=Tryz.prog) (w:=W) (fa fmt++c.pre) (gO c.pnum) (by omega)
     have T4d:Hid (Dm w w2.drew c (iE fmt c.plain++fC c.plain++bl c.lt)):=T4.out.step (bR.drew)
     have HSZ:Hid ((iE fmt c.plain++fC c.plain++bl c.lt).length+(fa fmt++c.pre++gO c.pnum).size≤1000000):=by
      show _≤_;rw[List.length_append,List.length_append,af];omega
     go_wp2_with fail
     go_region_held3 (fun w'=>w'.cell? ⟨w.heap.size,3,none⟩=some (.string c.pre)∧w'.cell? ⟨w.heap.size,4,none⟩=some (.int .i64 c.pnum))
      (first
        | go_keep
        | exact⟨hT6.box.cell 3 _ rfl,hT6.box.cell 4 _ rfl⟩
        | exact⟨(T4d.out.step hb5).box.cell 3 _ rfl,(T4d.out.step hb5).box.cell 4 _ rfl⟩)
      (first
        | (go_at_call 117;refine(oy c.pnum w2.drew (HG.out.below T4d.out.bel) HF.out.pnum).mono ?_;rintro e w5 ⟨rfl,hb5⟩)
        | (go_at_call 102;refine((T4d.out.step hb5).put (fa fmt++c.pre++gO c.pnum) HSZ.out).mono ?_;rintro e w6 ⟨rfl,hT6,hb6⟩))
     all_goals
      have T6:=ae hT6
      go_wp2_with fail
      go_meet
      exact⟨rfl,by rw[E.out];exact T6⟩
   case rest=>
   obtain⟨rfl,T5⟩:=hcut
   clear T4 k3
   have k5:=T5.out.box.cell 5 _ rfl
   have ptl:(bM fmt c.plain).length≤1020:=by
    unfold bM;split
    ·simp
    ·have h1:(bl c.pre).length≤1000:=by rw[af];exact prz
     have h2:(aC c.pnum).length≤19:=by have:=af (gO c.pnum);rw[ii] at this;omega
     show(jj fmt::(bl c.pre++aC c.pnum)).length≤1020
     rw[List.length_cons,List.length_append];omega
   have ltl:(bl c.lt).length≤1000:=by rw[af];exact ltz
   go_wp2_with fail
   refine(oy c.rev _ (HG.out.below T5.out.bel) HF.out.rev).mono ?_;rintro e w5 ⟨rfl,hb5⟩
   have T6:=ae (T5.out.step hb5)
   clear hb5 k5
   have sz3:(gZ fmt++gO c.rev).size≤21:=by rw[FH];omega
   go_wp2_with fail
   refine(T6.out.put (gZ fmt++gO c.rev) (by rw[List.length_append,List.length_append,List.length_append];omega)).mono ?_;rintro e w6 ⟨rfl,hT7,hb7⟩
   have T7:=ae hT7
   clear hT7 hb7
   go_wp2_with fail
   refine(Tryz.Builder_String_any (w.heap.size+1) (w.heap.size+1) _ w6 T7.out.bld (Nat.le_of_lt T7.out.sz)).mono ?_;rintro e w7 ⟨rfl,hb8⟩
   have HE:Hid (iE fmt c.plain++fC c.plain++bl c.lt++bM fmt c.plain++bl (gZ fmt++gO c.rev)=aN fmt c.plain):=by
    show _=_
    unfold aN bi
    rw[bg,ii,show bl (gZ fmt)=bK fmt from gI _]
    simp[bG.plain]
   have HB8:Hid (Below w.heap.size w w7):=T7.out.bel.trans (hb8.mono (Nat.le_succ _))
   rw[HE.out]
   go_wp2_with fail
   go_ret
   exact⟨rfl,HB8.out⟩
theorem rH:(Tryz.prog.info? 3).map (fun i=>(i.zero,i.size,i.bytes))=some (some (.int .i64 0),1,8):=by kernel_rfl
theorem OX (n:Nat)(w:World)(h0:0<n)(hn:n≤100000):
  Calls Tryz.prog 162 #[.slice none 0 0,.int .i64 n] w fun e w'=>∃ cap,e=.returned (.slice (some ⟨w.heap.size,0,none⟩) 0 cap)∧w'.ownsRow w.heap.size 3 1 (.slice (some ⟨w.heap.size,0,none⟩) 0 cap) 0 []∧Below w.heap.size w w':=by
 obtain⟨i0,hi,hz0,hz1,hz2⟩:=info_parts rH
 have h1:decide ((n:Int)<0)=false:=dF (by omega)
 have h2:decide ((0:Int)<(n:Int))=true:=dT (by omega)
 have h3:decide (0<n)=true:=dT h0
 have hg:=grownCap_ge w n 0 3
 have hm:=grownCap_le_maxLen w n 0 3 (by unfold maxLen;omega)
 have hr:=Lib.run_append_nil_zeros (P:=Tryz.prog) w 93 3 93 3 i0 (.int .i64 0) .i64 .i64 Tryz.underlying93 Tryz.underlying3 hi hz0 n h0 (by omega) (by omega) (by rw[hz2];omega)
 have HG:=ae hg;have HM:=ae hm
 clear hg hm
 go_enter Tryz.func162,Tryz.ntmps162
 go_wp2_with (at_builtin;refine Lib.wpList_append_run _ rfl _ _ _ _ rfl _ _ rfl rfl _ _ hr ?_)
 clear hr
 go_wp2_with fail
 go_ret
 refine⟨_,rfl,⟨rfl,.inr ⟨w.heap.size,_,_,rfl,lr,heap_alloc_new w.drew _,z0,HM.out,?_,?_⟩⟩,(bJ bR 1).alloc lr _⟩
 ·have:=HG.out
  simp[size_zeroCells,Value.cells];omega
 ·simp
theorem Ke (l:List Nat):∀ u∈bZ l,u.oneCell'=true:=by
 intro u hu;obtain⟨n,_,rfl⟩:=List.mem_map.1 hu;rfl
theorem IM (pb:Nat)(A B:Option Addr)(c d:Nat)(xs ys:List Nat)(w:World)(h0:w.cell? ⟨pb,0,none⟩=some (.slice A xs.length c))(h1:w.cell? ⟨pb,1,none⟩=some (.slice B ys.length d))
  (hA:Rd w 1 A xs.length (bZ xs))(hB:Rd w 1 B ys.length (bZ ys))(n0:0<xs.length)(n1:xs.length≤1000)(n2:ys.length≤10000):
  Calls Tryz.prog 115 #[.slice (some ⟨pb,0,none⟩) 2 2] w fun e w'=>∃ R cap,e=.returned (.slice R (xs++ys).length cap)∧Rd w' 1 R (xs++ys).length (bZ (xs++ys))∧Below w.heap.size w w':=by
 obtain⟨i0,hi,hz0,hz1,hz2⟩:=info_parts rH
 have HA:=ae hA;have HB:=ae hB
 clear hA hB
 have hpb:=World.block_lt_of_cell? _ _ h0
 have hx0:∀ W,(Instr.indexAt 222 (.slice (some ⟨pb,0,none⟩) 2 2) (.int .i64 0)).run Tryz.prog W=.ok (.pointer (some ⟨pb,0,none⟩)) W:=fun W=>by
  have:=aH (T:=222) (E:=93) (sz:=1) (A:=some ⟨pb,0,none⟩) (b:=pb) (off:=0) (n:=2) (c:=2) (k:=0) Tryz.underlying222 rfl Tryz.sizeOf93 rfl (by omega) W
  simpa using this
 have hx1:∀ W,(Instr.indexAt 222 (.slice (some ⟨pb,0,none⟩) 2 2) (.int .i64 1)).run Tryz.prog W=.ok (.pointer (some ⟨pb,1,none⟩)) W:=fun W=>by
  have:=aH (T:=222) (E:=93) (sz:=1) (A:=some ⟨pb,0,none⟩) (b:=pb) (off:=0) (n:=2) (c:=2) (k:=1) Tryz.underlying222 rfl Tryz.sizeOf93 rfl (by omega) W
  simpa using this
 go_enter Tryz.func115,Tryz.ntmps115
 go_wp2_with fail
 go_loop [3,11] (fun s i=>∃ (k m:Nat),k≤2∧i=.int .i64 k∧s=.int .i64 m∧Hid (m=if k=0 then 0 else if k=1 then xs.length else xs.length+ys.length)) (fun _ i=>2-(intOf i).toNat)
 case atStart=>exact⟨0,0,by omega,rfl,rfl,rfl⟩
 case round=>
  obtain⟨k,m,hk,rfl,rfl,hm⟩:=hrel
  rcases(by omega:k=0∨k=1∨k=2) with rfl | rfl | rfl
  ·obtain rfl:m=0:=hm.out
   have q1:decide (((0:Nat):Int)+(xs.length:Int)<0)=false:=dF (by omega)
   have q2:decide ((xs.length:Int)<0)=false:=dF (by omega)
   go_wp2_with fail
   go_round
   case rel=>exact⟨1,xs.length,by omega,by go_num,by go_num,rfl⟩
   case measure=>simp[intOf]
  ·obtain rfl:m=xs.length:=hm.out
   have q1:decide ((xs.length:Int)+(ys.length:Int)<0)=false:=dF (by omega)
   go_wp2_with fail
   go_round
   case rel=>exact⟨2,xs.length+ys.length,by omega,by go_num,by go_num,rfl⟩
   case measure=>simp[intOf]
  ·obtain rfl:m=xs.length+ys.length:=hm.out
   go_wp2_with fail
   refine(OX (xs.length+ys.length) _ (by omega) (by omega)).mono ?_;rintro e w1 ⟨cap,rfl,ho1,hb1⟩
   have O1:=ae ho1;have B1:=ae hb1
   clear ho1 hb1 hm
   have g0:=(B1.out.cell (p:=⟨pb,0,none⟩) hpb).trans h0
   have g1:=(B1.out.cell (p:=⟨pb,1,none⟩) hpb).trans h1
   go_wp2_with fail
   go_loopw [6,27] (fun v i wr=>∃ (k:Nat) (L:List Nat),k≤2∧i=.int .i64 k∧Hid (L=if k=0 then [] else if k=1 then xs else xs++ys)∧Hid (wr.ownsRow w.heap.size 3 1 v L.length (bZ L))∧Hid (Below w.heap.size w wr)) (fun _ i _=>2-(intOf i).toNat)
   case atStart=>exact⟨0,[],by omega,rfl,rfl,O1,B1⟩
   case round=>
    clear O1 B1 g0 g1
    obtain⟨k,L,hk,rfl,HL,HO,HBw⟩:=hrel
    obtain⟨Ao,co,rfl⟩:=aG HO.out
    have g0:=(HBw.out.cell (p:=⟨pb,0,none⟩) hpb).trans h0
    have g1:=(HBw.out.cell (p:=⟨pb,1,none⟩) hpb).trans h1
    rcases(by omega:k=0∨k=1∨k=2) with rfl | rfl | rfl
    ·obtain rfl:L=[]:=HL.out
     have RA:=ae ((HA.out.below HBw.out).reads (by omega))
     go_wp2_with (at_builtin;refine ak _ rfl _ _ _ rfl w.heap.size 3 i0 _ 1 8 Tryz.underlying93 hi hz0 hz1 hz2 rfl (by omega) (.slice Ao 0 co) 0 _ rfl HO.out _ A xs.length c (bZ xs) rfl RA.out (Ke xs) (by simp only[maxLen];omega) (by omega) HBw.out.size ?_;intro v1 w5 hown1 hg1 hat1)
     have O2:Hid (w5.ownsRow w.heap.size 3 1 v1 xs.length (bZ xs)):=ae (by have:=hown1;simpa [bZ] using this)
     have B2:Hid (Below w.heap.size w w5):=HBw.out.grown hg1 HBw.out.size (fun q hq=>(HO.out.lt q hq).1)
     clear hown1 hg1 hat1
     go_wp2_with fail
     go_roundw
     case rel=>exact⟨1,xs,by omega,by go_num,rfl,O2,B2⟩
     case measure=>simp[intOf]
    ·obtain rfl:L=xs:=HL.out
     have RB:=ae ((HB.out.below HBw.out).reads (by omega))
     go_wp2_with (at_builtin;refine ak _ rfl _ _ _ rfl w.heap.size 3 i0 _ 1 8 Tryz.underlying93 hi hz0 hz1 hz2 rfl (by omega) (.slice Ao L.length co) L.length _ rfl HO.out _ B ys.length d (bZ ys) rfl RB.out (Ke ys) (by simp only[maxLen];omega) (by omega) HBw.out.size ?_;intro v1 w5 hown1 hg1 hat1)
     have O2:Hid (w5.ownsRow w.heap.size 3 1 v1 (L++ys).length (bZ (L++ys))):=ae (by have:=hown1;simpa [bZ] using this)
     have B2:Hid (Below w.heap.size w w5):=HBw.out.grown hg1 HBw.out.size (fun q hq=>(HO.out.lt q hq).1)
     clear hown1 hg1 hat1
     go_wp2_with fail
     go_roundw
     case rel=>exact⟨2,L++ys,by omega,by go_num,rfl,O2,B2⟩
     case measure=>simp[intOf]
    ·obtain rfl:L=xs++ys:=HL.out
     go_wp2_with fail
     go_ret
     exact⟨Ao,co,rfl,bA HO.out,HBw.out⟩
end
end Go.Proofs.YtkjdbpjglobbjaaGreatDoor
