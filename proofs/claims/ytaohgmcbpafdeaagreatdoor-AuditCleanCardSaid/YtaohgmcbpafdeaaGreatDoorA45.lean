/- A part of the proof. -/
import Derived.Test.YtaohgmcbpafdeaaGreatDoorA33
import Derived.Test.YtaohgmcbpafdeaaGreatDoorA36
import Derived.Test.YtaohgmcbpafdeaaGreatDoorA42
import Derived.Test.YtaohgmcbpafdeaaGreatDoorA44
set_option maxRecDepth 100000
set_option maxHeartbeats 20000000
set_option linter.unusedVariables false
set_option linter.unusedSimpArgs false
namespace Go.Proofs.YtaohgmcbpafdeaaGreatDoor
section
open Go.RowKit Go.Maps Go.MapKept
structure Oh (w W:World) (f:av) (e:am):Prop where
 fb:ax W w.heap.size [.string f.path,.int .i64 f.kind,.int .i64 f.mode,.string f.owner,.string f.group,.string f.link,.string f.sum,.bool f.conf]
 eb:ax W (w.heap.size+1) e.cells
 bel:Below w.heap.size w W
theorem Oh.step {w W W':World}{f:av}{e:am}(h:Oh w W f e)(hb:Below W.heap.size W W'):Oh w W' f e:=⟨h.fb.below hb,h.eb.below hb,aq h.bel hb⟩
def Kq:am:=⟨⟨#[]⟩,0,0,0,0,⟨#[]⟩,⟨#[]⟩,0,⟨#[]⟩,none,0,[]⟩
def NJ (fmt:Int)(tree:List am)(f:av)(m2:Nat)(ks:List cl)(w:World)(e:Ending)(w':World):Prop:=
 e=.returned (.tuple #[])∧(∃ ks',gJ w' m2 ks'∧(∀ x,x∈ks'↔x∈ks∨x∈eL fmt tree f)∧ks'.length≤ks.length+2)∧w.grownBy w' (some m2)
theorem Du (y:am)(W:World):(Instr.field 45 (.agg #[.string y.path,.int .i64 y.kind,.int .i64 y.mode,.int .i64 y.uid,.int .i64 y.gid,.string y.owner,.string y.group,.int .i64 y.mtime,.string y.link,.slice y.da y.data.length y.dc]) 9).run Tryz.prog W=.ok (.slice y.da y.data.length y.dc) W:=by kernel_rfl
theorem Hl {fmt:Int}(h:fmt=1∨fmt=2∨fmt=3)(w:World):Calls Tryz.prog 35 #[.int .i64 fmt] w fun e w'=>e=.returned (.int .i64 (MK fmt:Nat))∧w=w':=by
 have:=Bc fmt w
 rcases h with rfl | rfl | rfl<;>exact this
theorem AK (kd:Nat)(m:LU):(fV kd m).length≤1000000:=by
 have h:∀ x:bX,(kF kd x.toNat 4).length=4:=fun x=>by unfold kF;split;exact lY _ _;exact rj _ _
 have h2:∀ l:List bX,(l.flatMap fun x=>kF kd x.toNat 4).length=4*l.length:=by
  intro l
  induction l with
  | nil=>rfl
  | cons a r ih=>rw[List.flatMap_cons,List.length_append,h,ih,List.length_cons];omega
 have h3:je kd≤8:=by unfold je;split;decide;split<;>decide
 unfold fV
 rw[h2,List.length_take]
 omega
theorem Mk (fmt:Int):1≤MK fmt∧MK fmt≤3:=by unfold MK;split;omega;split<;>omega
theorem NK (fmt:Int)(n c:Nat)(A:OA)(bs:LU)(s:BA)(hs:Kf fmt bs=s)(w:World)(hr:Rd w 1 A n ((fV (MK fmt) bs).map vb))(hn:n≤1000000):
  Calls Tryz.prog 33 #[.slice A n c] w fun e w'=>e=.returned (.string s)∧Below w.heap.size w w':=by
 subst hs
 exact Hd n c A _ w hr hn
theorem pI {w w':World}{row:Option Nat}(hb:Below w.heap.size w w'):w.grownBy w' row:=⟨hb.os,hb.tape,hb.output,hb.size,fun k hk _=>hb.block k hk⟩
theorem Kr (ab m1 m2 n1:Nat)(fmt:Int)(ks:List cl)(A:OA)(tree:List am)(f:av)(w0 w:World)(hT:rn w0)(hb0:Below w0.heap.size w0 w)(hm0:w0.heap.size≤m2)(hm2:m2<ab)(hfm:fmt=1∨fmt=2∨fmt=3)(hA:yu w ab fmt m1 m2 ks)(hM:aX w m1 n1 (nz tree))(hE:dz w0 A tree)(hF:kY tree)(hs:∀ x∈tree,x.small)(hp:f.path.size≤1000000)(hw2:m2<w.heap.size):
  Calls Tryz.prog 14 #[.pointer (some ⟨ab,0,none⟩),.agg #[.string f.path,.int .i64 f.kind,.int .i64 f.mode,.string f.owner,.string f.group,.string f.link,.string f.sum,.bool f.conf]] w (NJ fmt tree f m2 ks w):=by
 have HT:=ae hT
 have HB0:=ae hb0
 have HA:=ae hA
 have HM:=ae hM
 have HE:=ae hE
 have HF:=ae hF
 have HS:=ae hs
 have HFM:=ae hfm
 clear hT hb0 hA hM hE hF hs hfm
 obtain⟨W1,hW1⟩:∃ W1,w.alloc (.cells #[.string f.path,.int .i64 f.kind,.int .i64 f.mode,.string f.owner,.string f.group,.string f.link,.string f.sum,.bool f.conf] 42)=W1:=⟨_,rfl⟩
 have L1:Hid (Below w.heap.size w W1):=by show Below _ _ _;rw[←hW1];exact bR.alloc lr _
 have B1:Hid (ax W1 w.heap.size [.string f.path,.int .i64 f.kind,.int .i64 f.mode,.string f.owner,.string f.group,.string f.link,.string f.sum,.bool f.conf]):=by show ax _ _ _;rw[←hW1];exact ax.new w _ _
 have Z1:Hid (W1.heap.size=w.heap.size+1):=by show _=_;rw[←hW1];simp
 have LK:=ae (fun W (h:Below w.heap.size w W)=>by
  have:=(HM.out.below h).look_ok Tryz.underlying54 uk f.path (by unfold maxLen;omega)
  exact this)
 obtain⟨te,hte⟩:∃ te,(nz tree f.path).isSome=te:=⟨_,rfl⟩
 obtain⟨e,he,hee⟩:∃ e:am,(nz tree f.path).getD (.agg Pm)=.agg #[.string e.path,.int .i64 e.kind,.int .i64 e.mode,.int .i64 e.uid,.int .i64 e.gid,.string e.owner,.string e.group,.int .i64 e.mtime,.string e.link,.slice e.da e.data.length e.dc]∧((te=false∧e=Kq∧aV tree f.path=none)∨(te=true∧aV tree f.path=some e)):=by
  rw[←hte]
  unfold nz
  rw[uj HF.out]
  cases aV tree f.path with
  | none=>exact⟨Kq,rfl,.inl ⟨rfl,rfl,rfl⟩⟩
  | some y=>exact⟨y,rfl,.inr ⟨rfl,rfl⟩⟩
 rw[hte,he] at LK
 have HEE:=ae hee
 clear hte he hee
 go_enter Tryz.func14,Tryz.ntmps14
 go_wp2_with fail
 clear hW1
 refine OO (OJ fun O hO=>?_)
 have p0:=fC (k:=0) hO rfl
 have p1:=fC (k:=1) hO rfl
 have p2:=fC (k:=2) hO rfl
 have p3:=fC (k:=3) hO rfl
 have p4:=fC (k:=4) hO rfl
 have p5:=fC (k:=5) hO rfl
 have p6:=fC (k:=6) hO rfl
 have p7:=fC (k:=7) hO rfl
 have p8:=fC (k:=8) hO rfl
 have p9:=fC (k:=9) hO rfl
 have p10:=fC (k:=10) hO rfl
 have p11:=fC (k:=11) hO rfl
 have p12:=fC (k:=12) hO rfl
 have ok:∀ k,k<10→Dt O k=true:=by
  have h:(List.range 10).all (Dt O)=true:=by rw[hO];kernel_rfl
  intro k hk;exact List.all_eq_true.1 h k (List.mem_range.2 hk)
 have f12:Region.free .any O (lst O.size 12) 12=true:=by rw[hO];kernel_rfl
 have c12:(Region.ready .any O (lst O.size 12)).contains 12=true:=by rw[hO];kernel_rfl
 have hns:Region.noSelect O=true:=by rw[hO];kernel_rfl
 have r10:Region.ready .any O (lst O.size 10)=[10]:=by rw[hO];kernel_rfl
 have r11:Region.ready .any O (lst O.size 11)=[11]:=by rw[hO];kernel_rfl
 have r13:Region.ready .any O (lst O.size 13)=[]:=by rw[hO];kernel_rfl
 have hsz:O.size=13:=by rw[hO];rfl
 clear hO
 have L2:Hid (Below w.heap.size w W1.drew):=fq L1.out
 have LKA:=ae LK.out
 have SAT:=ae (fun W (h:Below w.heap.size w W) (hb:ax W w.heap.size [.string f.path,.int .i64 f.kind,.int .i64 f.mode,.string f.owner,.string f.group,.string f.link,.string f.sum,.bool f.conf])=>(⟨(HA.out.below h).blk.cell 1 _ rfl,hb.cell 0 _ rfl,LKA.out W h⟩:W.cell? ⟨ab,1,none⟩=some (.map (some m1))∧W.cell? ⟨w.heap.size,0,none⟩=some (.string f.path)∧(Instr.lookup 54 (.map (some m1)) (.string f.path) true).run Tryz.prog W=.ok (.tuple #[.agg #[.string e.path,.int .i64 e.kind,.int .i64 e.mode,.int .i64 e.uid,.int .i64 e.gid,.string e.owner,.string e.group,.int .i64 e.mtime,.string e.link,.slice e.da e.data.length e.dc],.bool te]) W))
 refine Kp (S:=fun w'=>w'.cell? ⟨ab,1,none⟩=some (.map (some m1))∧w'.cell? ⟨w.heap.size,0,none⟩=some (.string f.path)∧(Instr.lookup 54 (.map (some m1)) (.string f.path) true).run Tryz.prog w'=.ok (.tuple #[.agg #[.string e.path,.int .i64 e.kind,.int .i64 e.mode,.int .i64 e.uid,.int .i64 e.gid,.string e.owner,.string e.group,.int .i64 e.mtime,.string e.link,.slice e.da e.data.length e.dc],.bool te]) w') (by kernel_rfl) (SAT.out _ L2.out B1.out.drew) (fun hHeld=>?_)
 rw[show wpAnyH _ _ O _ _ O.size=wpAnyH _ _ O _ _ 13 by rw[hsz]]
 refine' eV ok hns p0 ?_
 (try simp only[sA,sB,sC])
 refine' eV ok hns p1 ?_
 (try simp only[sA,sB,sC])
 refine' eV ok hns p2 ?_
 (try simp only[sA,sB,sC])
 refine' eV ok hns p3 ?_
 (try simp only[sA,sB,sC])
 refine' eV ok hns p4 ?_
 (try simp only[sA,sB,sC])
 refine' eV ok hns p5 ?_
 (try simp only[sA,sB,sC])
 refine' eV ok hns p6 ?_
 (try simp only[sA,sB,sC])
 refine' eV ok hns p7 ?_
 (try simp only[sA,sB,sC])
 refine' eV ok hns p8 ?_
 (try simp only[sA,sB,sC])
 refine' eV ok hns p9 ?_
 (try simp only[sA,sB,sC])
 have L3:Hid (Below w.heap.size w (W1.drew.alloc (.cells #[.string ⟨#[]⟩,.int .i64 0,.int .i64 0,.int .i64 0,.int .i64 0,.string ⟨#[]⟩,.string ⟨#[]⟩,.int .i64 0,.string ⟨#[]⟩,.slice none 0 0] 45))):=L2.out.alloc L2.out.size _
 refine' MO (fun w'=>w'=(W1.drew.alloc (.cells #[.string ⟨#[]⟩,.int .i64 0,.int .i64 0,.int .i64 0,.int .i64 0,.string ⟨#[]⟩,.string ⟨#[]⟩,.int .i64 0,.string ⟨#[]⟩,.slice none 0 0] 45))) (k:=10) (j:=4) (v:=.pointer (some ⟨w.heap.size+1,0,none⟩)) r10 p10 rfl (by unfold Region.wanted;rfl) (fun w' h=>by subst h;exact SAT.out _ L3.out (B1.out.drew.alloc _)) ?hc10 (fun w3 hw3 hS3=>?rr10)
 case hc10=>
  intro K hK
  have hz:=Z1.out
  go_simp
  exact hK _ rfl
 (try simp only[sA,sB,sC])
 subst hw3
 have S4:=SAT.out (W1.drew.alloc (.cells #[.string e.path,.int .i64 e.kind,.int .i64 e.mode,.int .i64 e.uid,.int .i64 e.gid,.string e.owner,.string e.group,.int .i64 e.mtime,.string e.link,.slice e.da e.data.length e.dc] 45)) (L2.out.alloc L2.out.size _) (B1.out.drew.alloc _)
 refine' NH (k:=11) (w':=(W1.drew.alloc (.cells #[.string e.path,.int .i64 e.kind,.int .i64 e.mode,.int .i64 e.uid,.int .i64 e.gid,.string e.owner,.string e.group,.int .i64 e.mtime,.string e.link,.slice e.da e.data.length e.dc] 45))) r11 (rp _ _) p11 rfl (by unfold Region.wanted;rfl) S4 ?hc11 (fun hS4=>?rr11)
 case hc11=>
  intro K hK
  have hz:=Z1.out
  go_simp
  exact hK
 refine' OK hns f12 c12 (rp _ _) p12 ?_
 (try simp only[sA,sB,sC])
 refine MP r13 ?_
 have Q3:Hid (Oh w (W1.drew.alloc (.cells #[.string e.path,.int .i64 e.kind,.int .i64 e.mode,.int .i64 e.uid,.int .i64 e.gid,.string e.owner,.string e.group,.int .i64 e.mtime,.string e.link,.slice e.da e.data.length e.dc] 45)) f e):=⟨B1.out.drew.alloc _,by have h:=ax.new W1.drew [.string e.path,.int .i64 e.kind,.int .i64 e.mode,.int .i64 e.uid,.int .i64 e.gid,.string e.owner,.string e.group,.int .i64 e.mtime,.string e.link,.slice e.da e.data.length e.dc] 45;rw[show W1.drew.heap.size=w.heap.size+1 from Z1.out] at h;exact h,L2.out.alloc L2.out.size _⟩
 clear ok f12 c12 hns r10 r11 r13 hsz p0 p1 p2 p3 p4 p5 p6 p7 p8 p9 p10 p11 p12 hS3 hS4 S4 hHeld SAT LK L1 L2 B1
 generalize (W1.drew.alloc (.cells #[.string e.path,.int .i64 e.kind,.int .i64 e.mode,.int .i64 e.uid,.int .i64 e.gid,.string e.owner,.string e.group,.int .i64 e.mtime,.string e.link,.slice e.da e.data.length e.dc] 45))=W4 at *
 rcases HEE.out with⟨hte,_,hfn⟩ | ⟨hte,hfe⟩
 ·subst hte
  have c0:=Q3.out.fb.cell 0 _ rfl
  have HK:Hid (eL fmt tree f=[(f.path,1)]):=by show _=_;unfold eL;rw[hfn]
  clear hfn HEE
  go_wp2_with fail
  refine(jC ab m1 m2 fmt ks f.path 1 _ (HA.out.below Q3.out.bel)).mono ?_;rintro e' w' ⟨rfl,h1,h2⟩
  have H1:=ae h1
  have H2:=ae h2
  clear h1 h2
  go_wp2_with fail
  refine bodyPost_ret (results_none rfl _ _ _) rfl ?_
  exact⟨rfl,⟨_,H1.out,fun x=>by rw[lG,HK.out,List.mem_singleton],by have:=lH ks (f.path,1);omega⟩,(pI Q3.out.bel).andThen H2.out (fun j hj=>.inr hj)⟩
 subst hte
 have SE:=ae (HS.out e (dA hfe).1)
 have FE:=ae hfe
 clear hfe HEE
 have d1:=Q3.out.eb.cell 1 _ rfl
 have d9:=Q3.out.eb.cell 9 _ rfl
 go_wp2_with fail
 go_quiet (fail)
 have Q4:Hid (Oh w (W4.drewN nq) f e):=Q3.out.step (an bR _)
 clear d1 d9 Q3
 generalize W4.drewN nq=W5 at *
 go_upto_if 29 with(fail)
 go_cut [6,7] (fun v6 v7 wx=>v6=.int .i64 (AJ e)∧∃ (A2:OA) (n2 c2:Nat),v7=.slice A2 n2 c2∧Hid (Rd w0 1 A2 n2 ((Bb tree e).map vb))∧n2≤c2∧c2≤9223372036854775807∧n2≤1000000∧Hid (Oh w wx f e))
 case first=>
  have d1:=Q4.out.eb.cell 1 _ rfl
  by_cases h4:e.kind=4
  case neg=>
   have q:(e.kind==4)=false:=by simpa using h4
   have KN:Hid (e.kind=AJ e):=by show _=_;unfold AJ;rw[if_neg h4]
   have DA:Hid (Bb tree e=e.data):=by show _=_;unfold Bb;rw[if_neg h4]
   clear h4
   go_wp2_with fail
   go_meet
   exact⟨by rw[KN.out],e.da,e.data.length,e.dc,rfl,by rw[DA.out];exact HE.out.all e (dA FE.out).1,SE.out.cap,SE.out.capM,SE.out.data,Q4⟩
  case pos=>
   have q:(e.kind==4)=true:=by simpa using h4
   obtain⟨k,hk⟩:=List.getElem?_of_mem (dA FE.out).1
   obtain⟨i,y,hik,hyi,hyp,hy1,hyc⟩:=HF.out.hard k e hk h4
   have hym:=gM hyi
   have hfy:aV tree e.link=some y:=by
    rw[←hyp]
    exact lP hym (fun z hz h=>by
     obtain⟨i2,hi2⟩:=List.getElem?_of_mem hz
     have:=HF.out.nd i2 i z y hi2 hyi h
     subst this;rw[hi2] at hyi;injection hyi)
   have KN:Hid ((1:Int)=AJ e):=by show _=_;unfold AJ;rw[if_pos h4]
   have DA:Hid (Bb tree e=y.data):=by show _=_;unfold Bb;rw[if_pos h4,hfy];rfl
   have SY:=ae (HS.out y hym)
   have RY:=ae (HE.out.all y hym)
   have LK2:Hid (∀ W,Below w.heap.size w W→(Instr.lookup 54 (.map (some m1)) (.string e.link) false).run Tryz.prog W=.ok (.agg #[.string y.path,.int .i64 y.kind,.int .i64 y.mode,.int .i64 y.uid,.int .i64 y.gid,.string y.owner,.string y.group,.int .i64 y.mtime,.string y.link,.slice y.da y.data.length y.dc]) W):=by
    show ∀ _,_
    intro W h
    have:=(HM.out.below h).look Tryz.underlying54 uk e.link (by have:=SE.out.link;unfold maxLen;omega)
    rw[show nz tree e.link=some y.val by unfold nz;rw[uj HF.out,hfy];rfl] at this
    exact this
   have lk1:=LK2.out W5 Q4.out.bel
   have lk2:=fun n=>LK2.out (W5.drewN n) (an Q4.out.bel n)
   have k1:=(HA.out.below Q4.out.bel).blk.cell 1 _ rfl
   have d8:=Q4.out.eb.cell 8 _ rfl
   have hfd:=fun W=>Du y W
   clear h4 hk hyi hym hfy hyp hy1 hyc hik
   go_wp2_with fail
   go_quiet (fail)
   go_wp2_with fail
   go_meet
   exact⟨by rw[KN.out],y.da,y.data.length,y.dc,rfl,by rw[DA.out];exact RY.out,SY.out.cap,SY.out.capM,SY.out.data,Q4.out.step (an bR _)⟩
 case rest=>
  obtain⟨rfl,A2,n2,cc2,rfl,DR,hc1,hc2,hn2,Q5⟩:=hcut
  clear Q4
  rename World=>W6
  have c1:=Q5.out.fb.cell 1 _ rfl
  by_cases hkn:AJ e=f.kind
  case neg=>
   have q:(AJ e != f.kind)=true:=by simpa using hkn
   have c0:=Q5.out.fb.cell 0 _ rfl
   have HK:Hid (eL fmt tree f=[(f.path,2)]):=by show _=_;unfold eL;rw[FE.out];simp only;rw[if_pos hkn]
   clear hkn
   go_wp2_with fail
   refine(jC ab m1 m2 fmt ks f.path 2 _ (HA.out.below Q5.out.bel)).mono ?_;rintro e' w' ⟨rfl,h1,h2⟩
   have H1:=ae h1
   have H2:=ae h2
   clear h1 h2
   go_wp2_with fail
   refine bodyPost_ret (results_none rfl _ _ _) rfl ?_
   exact⟨rfl,⟨_,H1.out,fun x=>by rw[lG,HK.out,List.mem_singleton],by have:=lH ks (f.path,2);omega⟩,(pI Q5.out.bel).andThen H2.out (fun j hj=>.inr hj)⟩
  have q:(AJ e != f.kind)=false:=by simp[hkn]
  have KF:=ae hkn
  clear hkn
  have c2:=Q5.out.fb.cell 2 _ rfl
  have c3:=Q5.out.fb.cell 3 _ rfl
  have c4:=Q5.out.fb.cell 4 _ rfl
  have c5:=Q5.out.fb.cell 5 _ rfl
  have d2:=Q5.out.eb.cell 2 _ rfl
  have d5:=Q5.out.eb.cell 5 _ rfl
  have d6:=Q5.out.eb.cell 6 _ rfl
  have d8:=Q5.out.eb.cell 8 _ rfl
  go_upto_region 9 with(fail)
  go_cut [75] (fun v wx=>v=.bool (gI e f)∧wx=W6)
  case first=>
   obtain⟨z1,hz1⟩:∃ z,(e.mode != f.mode)=z:=⟨_,rfl⟩
   obtain⟨z2,hz2⟩:∃ z,(e.owner.toList==f.owner.toList)=z:=⟨_,rfl⟩
   obtain⟨z3,hz3⟩:∃ z,(e.group.toList==f.group.toList)=z:=⟨_,rfl⟩
   obtain⟨z4,hz4⟩:∃ z,(AJ e==3)=z:=⟨_,rfl⟩
   obtain⟨z5,hz5⟩:∃ z,(e.link.toList==f.link.toList)=z:=⟨_,rfl⟩
   have RB:Hid (gI e f=(z1||(!z2||(!z3||(z4 && !z5))))):=by
    show _=_
    unfold gI
    rw[←hz1,←hz2,←hz3,←hz4,←hz5,dx,dx,dx]
    have hd:∀ a b:Int,decide (a≠b)=(a != b):=fun a b=>by by_cases h:a=b<;>simp[h,bne]
    have he:∀ a b:Int,decide (a=b)=(a==b):=fun a b=>by by_cases h:a=b<;>simp[h]
    rw[hd,he]
    simp only[ne_eq,decide_not]
   cases z1
   case true=>
    go_wp2_with fail
    go_meet
    exact⟨by rw[RB.out];rfl,rfl⟩
   cases z2
   case false=>
    go_wp2_with fail
    go_meet
    exact⟨by rw[RB.out];rfl,rfl⟩
   cases z3
   case false=>
    go_wp2_with fail
    go_meet
    exact⟨by rw[RB.out];rfl,rfl⟩
   cases z4
   case false=>
    go_wp2_with fail
    go_meet
    exact⟨by rw[RB.out];rfl,rfl⟩
   go_wp2_with fail
   go_meet
   exact⟨by rw[RB.out];rfl,rfl⟩
  case rest=>
   obtain⟨rfl,rfl⟩:=hcut
   have HK:Hid (eL fmt tree f=(if gI e f=true then [(f.path,3)] else [])++(if AJ e=1∧f.sum≠Kf fmt (Bb tree e) then [(f.path,4)] else [])):=by show _=_;unfold eL;rw[FE.out];simp only;rw[if_neg (by simpa using KF.out)]
   clear c1 c2 c3 c4 c5 d2 d5 d6 d8
   have c0:=Q5.out.fb.cell 0 _ rfl
   go_upto_if 75 with(fail)
   go_cut [] (fun wx=>∃ ks1,Hid (yu wx ab fmt m1 m2 ks1)∧Hid (∀ x,x∈ks1↔x∈ks∨x∈(if gI e f=true then [(f.path,(3:Int))] else []))∧Hid (ks1.length≤ks.length+1)∧Hid (ax wx w.heap.size [.string f.path,.int .i64 f.kind,.int .i64 f.mode,.string f.owner,.string f.group,.string f.link,.string f.sum,.bool f.conf])∧Hid (w.grownBy wx (some m2))∧Hid (w.heap.size<wx.heap.size))
   case first=>
    cases hr:gI e f
    case false=>
     have RT:=ae hr
     clear hr
     go_wp2_with fail
     go_meet
     exact⟨ks,HA.out.below Q5.out.bel,fun x=>by rw[if_neg (by rw[RT.out];decide)];simp,by show _≤_;omega,Q5.out.fb,pI Q5.out.bel,Q5.out.fb.sz⟩
    case true=>
     have RT:=ae hr
     clear hr
     go_wp2_with fail
     refine(jC ab m1 m2 fmt ks f.path 3 _ (HA.out.below Q5.out.bel)).mono ?_;rintro e' w' ⟨rfl,h1,h2⟩
     have A1:Hid (yu w' ab fmt m1 m2 (kI ks (f.path,3))):=⟨(HA.out.below Q5.out.bel).blk.grownC h2 (by omega),h1⟩
     have L1:Hid (ax w' w.heap.size _):=Q5.out.fb.grownC h2 (by omega)
     have G1:Hid (w.grownBy w' (some m2)):=(pI Q5.out.bel).andThen h2 (fun j hj=>.inr hj)
     have Z1:Hid (w.heap.size<w'.heap.size):=Nat.lt_of_lt_of_le Q5.out.fb.sz h2.size
     clear h1 h2 c0
     go_wp2_with fail
     go_meet
     exact⟨_,A1,fun x=>by rw[lG,if_pos RT.out,List.mem_singleton],lH _ _,L1,G1,Z1⟩
   case rest=>
    obtain⟨ks1,A1,M1,N1,F1,G1,Z1⟩:=hcut
    clear c0 Q5
    have BB:Hid (Below w0.heap.size w0 wc):=by show Below _ _ _;exact HB0.out.grown G1.out HB0.out.size (fun j hj=>by injection hj with hj;omega)
    have c0:=F1.out.cell 0 _ rfl
    have c6:=F1.out.cell 6 _ rfl
    by_cases h1:AJ e=1
    case neg=>
     have q1:(AJ e==1)=false:=by simpa using h1
     have HK2:Hid (eL fmt tree f=(if gI e f=true then [(f.path,3)] else [])):=by show _=_;rw[HK.out,if_neg (c:=AJ e=1∧f.sum≠Kf fmt (Bb tree e)) (fun h=>h1 h.1),List.append_nil]
     clear h1
     go_wp2_with fail
     go_quiet (fail)
     go_wp2_with fail
     refine bodyPost_ret (results_none rfl _ _ _) rfl ?_
     exact⟨rfl,⟨_,(A1.out.below (an bR _)).map,fun x=>by rw[M1.out,HK2.out],by have:=N1.out;omega⟩,G1.out.andThen (pI (row:=some m2) (an bR _)) (fun j hj=>.inr hj)⟩
    have q1:(AJ e==1)=true:=by simpa using h1
    have K1:=ae h1
    clear h1
    obtain⟨hx,hhx⟩:∃ s,Kf fmt (Bb tree e)=s:=⟨_,rfl⟩
    have HX:=ae hhx
    obtain⟨z6,hz6⟩:∃ z,(f.sum.toList==hx.toList)=z:=⟨_,rfl⟩
    have HK3:Hid (eL fmt tree f=(if gI e f=true then [(f.path,3)] else [])++(if z6=false then [(f.path,4)] else [])):=by
     show _=_
     rw[HK.out,hhx,←hz6,dx]
     congr 1
     by_cases hs:f.sum=hx<;>simp[hs,K1.out]
    have k0:=A1.out.blk.cell 0 _ rfl
    have GT:Hid (rn wc):=HT.out.below BB.out
    have RD:Hid (Rd wc 1 A2 n2 ((Bb tree e).map vb)):=DR.out.below BB.out
    have hl1:=Z1.out
    have hl2:=A1.out.blk.sz
    clear hhx c0
    go_wp2_with fail
    go_region_held3 (fun w'=>w'.cell? ⟨w.heap.size,6,none⟩=some (.string f.sum)∧w'.cell? ⟨ab,0,none⟩=some (.int .i64 fmt))
     (first
       | exact⟨c6,k0⟩
       | exact⟨(hb6.cell (p:=⟨w.heap.size,6,none⟩) hl1).trans c6,(hb6.cell (p:=⟨ab,0,none⟩) hl2).trans k0⟩
       | exact⟨(hb7.cell (p:=⟨w.heap.size,6,none⟩) (Nat.lt_of_lt_of_le hl1 hb6.size)).trans ((hb6.cell (p:=⟨w.heap.size,6,none⟩) hl1).trans c6),(hb7.cell (p:=⟨ab,0,none⟩) (Nat.lt_of_lt_of_le hl2 hb6.size)).trans ((hb6.cell (p:=⟨ab,0,none⟩) hl2).trans k0)⟩)
     (first
       | (go_at_call 35;(with_reducible refine(Hl HFM.out _).mono ?_);rintro e w' ⟨rfl,rfl⟩)
       | (go_at_call 34;refine(Hf (MK fmt) n2 cc2 (Mk fmt) A2 (Bb tree e) wc.drew (GT.out.below (show Below wc.heap.size wc wc.drew from⟨rfl,rfl,rfl,lr,fun _ _=>rfl⟩)) RD.out.drew hc1 hc2 (by omega)).mono ?_;rintro e w6 ⟨dv,rfl,row,hb6⟩;obtain⟨A6,c6',rfl⟩:=aP row;have RD6:=ae (cH row);clear row)
       | (go_at_call 33;refine(NK fmt (fV (MK fmt) (Bb tree e)).length _ _ (Bb tree e) hx HX.out _ (by exact RD6.out) (AK _ _)).mono ?_;rintro e w7 ⟨rfl,hb7⟩))
    all_goals
     have B7:Hid (Below wc.heap.size wc w7):=aq (show Below wc.heap.size wc w6 from⟨hb6.os,hb6.tape,hb6.output,hb6.size,hb6.block⟩) hb7
     have A7:=ae (A1.out.below B7.out)
     have F7:=F1.out.below B7.out
     have c0:=F7.cell 0 _ rfl
     have GB:Hid (w.grownBy w7 (some m2)):=G1.out.andThen (pI (row:=some m2) B7.out) (fun j hj=>.inr hj)
     clear hb6 hb7 F7 c6 k0 RD6 RD GT A1 hz6 hl1 hl2
     cases z6
     case true=>
      go_wp2_with fail
      refine bodyPost_ret (results_none rfl _ _ _) rfl ?_
      exact⟨rfl,⟨_,A7.out.map,fun x=>by rw[M1.out,HK3.out,if_neg (c:=true=false) (by decide),List.append_nil],by have:=N1.out;omega⟩,GB.out⟩
     case false=>
      have HK4:Hid (eL fmt tree f=(if gI e f=true then [(f.path,3)] else [])++[(f.path,4)]):=by show _=_;rw[HK3.out,if_pos (c:=false=false) rfl]
      clear HK3
      go_wp2_with fail
      refine(jC ab m1 m2 fmt ks1 f.path 4 _ A7.out).mono ?_;rintro e' w' ⟨rfl,h1,h2⟩
      have H1:=ae h1
      have H2:=ae h2
      clear h1 h2
      go_wp2_with fail
      refine bodyPost_ret (results_none rfl _ _ _) rfl ?_
      exact⟨rfl,⟨_,H1.out,fun x=>by rw[lG,M1.out,HK4.out,List.mem_append,List.mem_singleton,or_assoc],by have:=lH ks1 (f.path,4);have:=N1.out;omega⟩,GB.out.andThen H2.out (fun j hj=>.inr hj)⟩
end
end Go.Proofs.YtaohgmcbpafdeaaGreatDoor
