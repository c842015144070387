/- A part of the proof. -/
import Derived.Test.YtlglfpbhapmhiaaGreatDoorL11
import Derived.Test.YtlglfpbhapmhiaaGreatDoorL13
set_option maxRecDepth 100000
set_option maxHeartbeats 20000000
set_option linter.unusedVariables false
set_option linter.unusedSimpArgs false
namespace Go.Proofs.YtlglfpbhapmhiaaGreatDoor
variable{s:BA}{ps:List BA}{k n2:Nat}{V:Value}{w w' wr:World}
section
open Go.RowKit Go.Maps
def Rn (x:ag):Value:=.agg #[.int .i64 x.mode,.int .i64 x.uid,.int .i64 x.gid,.string x.owner,.string x.group,.int .i64 x.mtime]
theorem nr (x:ag)(w:World):Calls Tryz.prog 74 #[x.val] w fun e w'=>e=.returned (Rn x)/\Below w.heap.size w w':=by
 unfold ag.val;go_in;go_wp2_with fail;refine bodyPost_ret (v:=Rn x) (by simp[results,Tryz.results74,go_sem,Rn]) rfl ⟨rfl,?_⟩;exact(bR.alloc lr _).alloc (by simp) _
theorem Gh (x y:ag)(w:World):(binOp .neq 115 (.agg #[.int .i64 x.mode,.int .i64 x.uid,.int .i64 x.gid,.string x.owner,.string x.group,.int .i64 x.mtime]) (.agg #[.int .i64 y.mode,.int .i64 y.uid,.int .i64 y.gid,.string y.owner,.string y.group,.int .i64 y.mtime])).run Tryz.prog w=.ok (.bool (!gh x y)) w:=by
 go_simp;unfold gh
 (repeat' split)<;>simp_all
theorem Pm {pre:List ag}{x:ag}(h:dE x≠0):mD pre x=dE x:=by unfold mD;rw[if_pos h]
theorem Kg {pre:List ag}{x y:ag}(h:dE x=0)(h2:cT pre x.path=some y):mD pre x=8:=by unfold mD;rw[if_neg (by simp[h]),if_pos (by rw[h2];rfl)]
theorem vR {pre:List ag}{x:ag}(h:dE x=0)(h2:cT pre x.path=none)(h3:x.kind=4)(h4:fW pre x≠0):mD pre x=fW pre x:=by
 unfold mD;rw[if_neg (by simp[h]),if_neg (by rw[h2];simp),if_pos ⟨h3,h4⟩]
theorem Ro {pre:List ag}{x y:ag}(h:dE x=0)(h2:cT pre x.path=none)(h3:x.kind=4->fW pre x=0)(hs:s∈aV x.path)(hy:cT pre s=some y)(hk:y.kind≠2):mD pre x=9:=by
 unfold mD;rw[if_neg (by simp[h]),if_neg (by rw[h2];simp),if_neg (fun e=>e.2 (h3 e.1)),if_pos (List.any_eq_true.2 ⟨s,hs,by rw[hy];simpa using hk⟩)]
theorem Kh {pre:List ag}{x:ag}(h:dE x=0)(h2:cT pre x.path=none)(h3:x.kind=4->fW pre x=0)(hk:x.kind≠2)(ha:mN pre x.path=true):mD pre x=9:=by
 unfold mD;rw[if_neg (by simp[h]),if_neg (by rw[h2];simp),if_neg (fun e=>e.2 (h3 e.1))];split
 ·rfl
 ·rw[if_pos ⟨hk,ha⟩]
theorem Dh {pre:List ag}{x:ag}(h:dE x=0)(h2:cT pre x.path=none)(h3:x.kind=4->fW pre x=0)(h4:∀ s∈aV x.path,∀ y,cT pre s=some y->y.kind=2)(h5:x.kind=2\/mN pre x.path=false):mD pre x=0:=by
 refine Ng h h2 h3 h4 fun hk y hy hm=>?_;rcases h5 with h5 | h5
 ·exact hk h5
 ·unfold mN at h5;rw[List.any_eq_false] at h5;exact h5 y hy (jU.2 hm)
theorem rt {x:ag}(h:dE x=0):x.path.size<=200:=by
 unfold dE at h;split at h
 ·simp at h
 ·rename_i hp;have:cR (bl x.path)=true:=by simpa using hp
  unfold cR at this;rw[Bool.and_eq_true,Bool.and_eq_true,Bool.and_eq_true] at this;have:=dO this.1.1.2;rw[ah] at this;exact this
theorem kB {α:Type}{l:List α}{x:α}(h:l[k]?=some x):l.take (k+1)=l.take k++[x]:=by
 obtain⟨hk,hx⟩:=gS h;rw[tS hk,hx]
theorem ke.look0 {c m1 m2:Nat}{v:Value}{l:List ag}(h:ke w c m1 m2 n2 v l ps)(s:BA)(hs:s.size<=maxLen):
  (Instr.lookup 104 (.map (some m1)) (.string s) true).run Tryz.prog w=.ok (.tuple #[.int .i64 ((dt l s).getD 0:Nat),.bool (dt l s).isSome]) w:=h.look1 s hs 0
theorem Hs (x:ag)(w:World):Calls Tryz.prog 74 #[.agg #[.string x.path,.int .i64 x.kind,.int .i64 x.mode,.int .i64 x.uid,.int .i64 x.gid,.string x.owner,.string x.group,.int .i64 x.mtime,.string x.link,.slice x.da x.data.length x.dc]] w fun e w'=>e=.returned (.agg #[.int .i64 x.mode,.int .i64 x.uid,.int .i64 x.gid,.string x.owner,.string x.group,.int .i64 x.mtime])/\Below w.heap.size w w':=nr x w
theorem Di (A:OA)(cap:Nat)(l pre:List ag)(c m1 m2 n2:Nat)(x:ag)(w:World)(hG:Gl w)(hE:cV w A l)(hC:ke w c m1 m2 n2 (.slice A l.length cap) pre [])
  (hp:∀ (i:Nat)(y:ag),pre[i]?=some y->l[i]?=some y)(hs:x.small)(hl:l.length<=100000):Calls Tryz.prog 76 #[.pointer (some ⟨c,0,none⟩),x.val] w fun e w'=>e=.returned (.int .i64 (mD pre x))/\Below w.heap.size w w':=by
 have HG:=ae hG;have HE:=ae hE;have HC:=ae hC;have HP:=ae hp;have HS:=ae hs;clear hG hE hC hp hs;obtain⟨W0,hW0⟩:∃ W0,w.alloc (.cells #[.string x.path,.int .i64 x.kind,.int .i64 x.mode,.int .i64 x.uid,.int .i64 x.gid,.string x.owner,.string x.group,.int .i64 x.mtime,.string x.link,.slice x.da x.data.length x.dc] 35)=W0:=⟨_,rfl⟩
 have B0:Hid (EB w W0 x):=by show EB _ _ _;rw[<-hW0];exact EB.start w x
 have C0:Hid (ke W0 c m1 m2 n2 (.slice A l.length cap) pre []):=HC.out.below (by have:=B0.out.bel;exact this);have c0:=B0.out.blk.cell 0 _ rfl;have c1:=B0.out.blk.cell 1 _ rfl;have c2:=B0.out.blk.cell 2 _ rfl;have c3:=B0.out.blk.cell 3 _ rfl;have c4:=B0.out.blk.cell 4 _ rfl;have c5:=B0.out.blk.cell 5 _ rfl;have c6:=B0.out.blk.cell 6 _ rfl;have c7:=B0.out.blk.cell 7 _ rfl;have c8:=B0.out.blk.cell 8 _ rfl;have c9:=B0.out.blk.cell 9 _ rfl;unfold ag.val;go_in;go_wp2_with fail;clear hW0 c0 c1 c2 c3 c4 c5 c6 c7 c8 c9;have CK:=Bj x W0 (HG.out.below B0.out.bel) HS.out;unfold ag.val at CK;refine CK.mono ?_;rintro e w1 ⟨rfl,hb1⟩;have B1:=ae (B0.out.step hb1);have C1:=ae (C0.out.below hb1);clear hb1 CK B0 C0;by_cases he:dE x=0
 case neg=>
  have q:(dE x != 0)=true:=by simpa using he
  have R:Hid (mD pre x=dE x):=Pm he;clear he;go_wp2;go_ret;exact⟨aI R.out.symm,B1.out.bel⟩
 rw[he];have Z:=ae he;clear he;have hps:x.path.size<=maxLen:=by have:=HS.out.path;unfold maxLen;omega
 have hls:x.link.size<=maxLen:=by have:=HS.out.link;unfold maxLen;omega
 have c0:=B1.out.blk.cell 0 _ rfl;have k1:=C1.out.blk.cell 1 _ rfl;have q1:=C1.out.look1 x.path hps;rcases jZ pre x.path with⟨p1,p2⟩ | ⟨i,y,p1,p2,p3,p4⟩
 case inr=>
  rw[p1] at q1;simp only[Option.getD_some,Option.isSome_some] at q1;have R:Hid (mD pre x=8):=Kg Z.out p3;clear p1 p2 p3 p4;go_wp2;go_quiet (fail);go_wp2;go_ret;exact⟨aI R.out.symm,am B1.out.bel _⟩
 rw[p1] at q1;simp only[Option.getD_none,Option.isSome_none] at q1;have P:=ae p2;clear p1 p2;go_wp2;go_quiet (fail);have c1:=B1.out.blk.cell 1 _ rfl;go_upto_if 34 with(fail)
 clear c0 c1 k1 q1;have HB:=fun n=>(show Below w1.heap.size w1 (w1.drewN n) from⟨rfl,rfl,rfl,lr,fun _ _=>rfl⟩)
 generalize hW:w1.drewN _=w2;have B2:Hid (EB w w2 x):=by show EB _ _ _;rw[<-hW];exact B1.out.step (HB _)
 have C2:Hid (ke w2 c m1 m2 n2 (.slice A l.length cap) pre []):=by show ke _ _ _ _ _ _ _ _;rw[<-hW];exact C1.out.below (HB _)
 clear hW HB B1 C1;go_cut [] (fun wx=>Hid (EB w wx x)/\Hid (ke wx c m1 m2 n2 (.slice A l.length cap) pre [])/\Hid (x.kind=4->fW pre x=0))
 case first=>
  have c1:=B2.out.blk.cell 1 _ rfl;by_cases hk:x.kind=4
  case neg=>
   have q:(x.kind==4)=false:=by simpa using hk
   have K:=ae hk;clear hk;go_wp2;go_meet;exact⟨B2,C2,fun h=>absurd h K.out⟩
  have q:(x.kind==4)=true:=by simpa using hk
  have K:=ae hk;clear hk;have c8:=B2.out.blk.cell 8 _ rfl;have k0:=C2.out.blk.cell 0 _ rfl;have k1:=C2.out.blk.cell 1 _ rfl;have q1:=C2.out.look1 x.link hls;rcases jZ pre x.link with⟨p1,p2⟩ | ⟨i,y,p1,p2,p3,p4⟩
  case inl=>
   rw[p1] at q1;simp only[Option.getD_none,Option.isSome_none] at q1;have H:fW pre x=15:=by unfold fW;rw[p2]
   have R:Hid (mD pre x=15):=by show _=_;rw[vR Z.out P.out K.out (by rw[H];decide),H]
   clear p1 p2 H;go_wp2;go_quiet (fail);go_wp2;go_ret;exact⟨aI R.out.symm,am B2.out.bel _⟩
  rw[p1] at q1;simp only[Option.getD_some,Option.isSome_some] at q1;obtain⟨b,off,hA,hel⟩:=((HE.out.below B2.out.bel).row).elem bi i y (HP.out i y p2);have hi:i<l.length:=(gS (HP.out i y p2)).1;have hix:=fun W=>aB (T:=28) (E:=35) (sz:=10) (c:=cap) Tryz.underlying28 rfl Tryz.sizeOf35 hA hi W;have e0:=hel 0 _ rfl;have e1:=hel 1 _ rfl;have e2:=hel 2 _ rfl;have e3:=hel 3 _ rfl;have e4:=hel 4 _ rfl;have e5:=hel 5 _ rfl;have e6:=hel 6 _ rfl;have e7:=hel 7 _ rfl;have e8:=hel 8 _ rfl;have e9:=hel 9 _ rfl;simp only[Nat.add_zero] at e0;have F:=ae p3;clear p1 p2 p3 p4 hA hel;by_cases hy:y.kind=1
  case neg=>
   have q2:(y.kind != 1)=true:=by simpa using hy
   have H:fW pre x=15:=by unfold fW;rw[F.out];simp[hy]
   have R:Hid (mD pre x=15):=by show _=_;rw[vR Z.out P.out K.out (by rw[H];decide),H]
   clear H hy;go_wp2;go_quiet (fail);go_wp2;go_ret;exact⟨aI R.out.symm,am B2.out.bel _⟩
  have q2:(y.kind != 1)=false:=by simp[hy]
  have Y:=ae hy;clear hy;go_wp2;go_quiet (fail);go_wp2_with fail;have HB:=fun n=>(show Below w2.heap.size w2 (w2.drewN n) from⟨rfl,rfl,rfl,lr,fun _ _=>rfl⟩)
  generalize hW:w2.drewN _=w3;have B3:Hid (EB w w3 x):=by show EB _ _ _;rw[<-hW];exact B2.out.step (HB _)
  have C3:Hid (ke w3 c m1 m2 n2 (.slice A l.length cap) pre []):=by show ke _ _ _ _ _ _ _ _;rw[<-hW];exact C2.out.below (HB _)
  have f0:w3.cell? ⟨b,off+i*10,none⟩=some (.string y.path):=by rw[<-hW];exact e0
  have f1:w3.cell? ⟨b,off+i*10+1,none⟩=some (.int .i64 y.kind):=by rw[<-hW];exact e1
  have f2:w3.cell? ⟨b,off+i*10+2,none⟩=some (.int .i64 y.mode):=by rw[<-hW];exact e2
  have f3:w3.cell? ⟨b,off+i*10+3,none⟩=some (.int .i64 y.uid):=by rw[<-hW];exact e3
  have f4:w3.cell? ⟨b,off+i*10+4,none⟩=some (.int .i64 y.gid):=by rw[<-hW];exact e4
  have f5:w3.cell? ⟨b,off+i*10+5,none⟩=some (.string y.owner):=by rw[<-hW];exact e5
  have f6:w3.cell? ⟨b,off+i*10+6,none⟩=some (.string y.group):=by rw[<-hW];exact e6
  have f7:w3.cell? ⟨b,off+i*10+7,none⟩=some (.int .i64 y.mtime):=by rw[<-hW];exact e7
  have f8:w3.cell? ⟨b,off+i*10+8,none⟩=some (.string y.link):=by rw[<-hW];exact e8
  have f9:w3.cell? ⟨b,off+i*10+9,none⟩=some (.slice y.da y.data.length y.dc):=by rw[<-hW];exact e9
  clear hW HB B2 C2 c1 c8 k0 k1 q1 e0 e1 e2 e3 e4 e5 e6 e7 e8 e9;have c0:=B3.out.blk.cell 0 _ rfl;have c1:=B3.out.blk.cell 1 _ rfl;have c2:=B3.out.blk.cell 2 _ rfl;have c3:=B3.out.blk.cell 3 _ rfl;have c4:=B3.out.blk.cell 4 _ rfl;have c5:=B3.out.blk.cell 5 _ rfl;have c6:=B3.out.blk.cell 6 _ rfl;have c7:=B3.out.blk.cell 7 _ rfl;have c8:=B3.out.blk.cell 8 _ rfl;have c9:=B3.out.blk.cell 9 _ rfl;have k0:=C3.out.blk.cell 0 _ rfl;have hq:=fun W=>Gh x y W;obtain⟨cb,hcb⟩:∃ cb,gh x y=cb:=⟨_,rfl⟩
  rw[hcb] at hq;have CB:=ae hcb;clear hcb;have lb:=World.block_lt_of_cell? _ _ f0;have lw:=B3.out.blk.sz;have lc:=C3.out.blk.sz
  go_region_held3 (fun w'=>w'.cell? ⟨w.heap.size,0,none⟩=some (.string x.path)/\w'.cell? ⟨w.heap.size,1,none⟩=some (.int .i64 x.kind)/\w'.cell? ⟨w.heap.size,2,none⟩=some (.int .i64 x.mode)/\w'.cell? ⟨w.heap.size,3,none⟩=some (.int .i64 x.uid)/\w'.cell? ⟨w.heap.size,4,none⟩=some (.int .i64 x.gid)/\w'.cell? ⟨w.heap.size,5,none⟩=some (.string x.owner)/\w'.cell? ⟨w.heap.size,6,none⟩=some (.string x.group)/\w'.cell? ⟨w.heap.size,7,none⟩=some (.int .i64 x.mtime)/\w'.cell? ⟨w.heap.size,8,none⟩=some (.string x.link)/\w'.cell? ⟨w.heap.size,9,none⟩=some (.slice x.da x.data.length x.dc)/\w'.cell? ⟨c,0,none⟩=some (.slice A l.length cap)/\w'.cell? ⟨b,off+i*10,none⟩=some (.string y.path)/\w'.cell? ⟨b,off+i*10+1,none⟩=some (.int .i64 y.kind)/\w'.cell? ⟨b,off+i*10+2,none⟩=some (.int .i64 y.mode)/\w'.cell? ⟨b,off+i*10+3,none⟩=some (.int .i64 y.uid)/\w'.cell? ⟨b,off+i*10+4,none⟩=some (.int .i64 y.gid)/\w'.cell? ⟨b,off+i*10+5,none⟩=some (.string y.owner)/\w'.cell? ⟨b,off+i*10+6,none⟩=some (.string y.group)/\w'.cell? ⟨b,off+i*10+7,none⟩=some (.int .i64 y.mtime)/\w'.cell? ⟨b,off+i*10+8,none⟩=some (.string y.link)/\w'.cell? ⟨b,off+i*10+9,none⟩=some (.slice y.da y.data.length y.dc))
   (first
     | exact⟨c0,c1,c2,c3,c4,c5,c6,c7,c8,c9,k0,f0,f1,f2,f3,f4,f5,f6,f7,f8,f9⟩
     | exact⟨(hb5.cell (p:=⟨w.heap.size,0,none⟩) lw).trans c0,(hb5.cell (p:=⟨w.heap.size,1,none⟩) lw).trans c1,(hb5.cell (p:=⟨w.heap.size,2,none⟩) lw).trans c2,(hb5.cell (p:=⟨w.heap.size,3,none⟩) lw).trans c3,(hb5.cell (p:=⟨w.heap.size,4,none⟩) lw).trans c4,(hb5.cell (p:=⟨w.heap.size,5,none⟩) lw).trans c5,(hb5.cell (p:=⟨w.heap.size,6,none⟩) lw).trans c6,(hb5.cell (p:=⟨w.heap.size,7,none⟩) lw).trans c7,(hb5.cell (p:=⟨w.heap.size,8,none⟩) lw).trans c8,(hb5.cell (p:=⟨w.heap.size,9,none⟩) lw).trans c9,(hb5.cell (p:=⟨c,0,none⟩) lc).trans k0,(hb5.cell (p:=⟨b,off+i*10,none⟩) lb).trans f0,(hb5.cell (p:=⟨b,off+i*10+1,none⟩) lb).trans f1,(hb5.cell (p:=⟨b,off+i*10+2,none⟩) lb).trans f2,(hb5.cell (p:=⟨b,off+i*10+3,none⟩) lb).trans f3,(hb5.cell (p:=⟨b,off+i*10+4,none⟩) lb).trans f4,(hb5.cell (p:=⟨b,off+i*10+5,none⟩) lb).trans f5,(hb5.cell (p:=⟨b,off+i*10+6,none⟩) lb).trans f6,(hb5.cell (p:=⟨b,off+i*10+7,none⟩) lb).trans f7,(hb5.cell (p:=⟨b,off+i*10+8,none⟩) lb).trans f8,(hb5.cell (p:=⟨b,off+i*10+9,none⟩) lb).trans f9⟩
     | exact⟨(hb6.cell (p:=⟨w.heap.size,0,none⟩) lw).trans c0,(hb6.cell (p:=⟨w.heap.size,1,none⟩) lw).trans c1,(hb6.cell (p:=⟨w.heap.size,2,none⟩) lw).trans c2,(hb6.cell (p:=⟨w.heap.size,3,none⟩) lw).trans c3,(hb6.cell (p:=⟨w.heap.size,4,none⟩) lw).trans c4,(hb6.cell (p:=⟨w.heap.size,5,none⟩) lw).trans c5,(hb6.cell (p:=⟨w.heap.size,6,none⟩) lw).trans c6,(hb6.cell (p:=⟨w.heap.size,7,none⟩) lw).trans c7,(hb6.cell (p:=⟨w.heap.size,8,none⟩) lw).trans c8,(hb6.cell (p:=⟨w.heap.size,9,none⟩) lw).trans c9,(hb6.cell (p:=⟨c,0,none⟩) lc).trans k0,(hb6.cell (p:=⟨b,off+i*10,none⟩) lb).trans f0,(hb6.cell (p:=⟨b,off+i*10+1,none⟩) lb).trans f1,(hb6.cell (p:=⟨b,off+i*10+2,none⟩) lb).trans f2,(hb6.cell (p:=⟨b,off+i*10+3,none⟩) lb).trans f3,(hb6.cell (p:=⟨b,off+i*10+4,none⟩) lb).trans f4,(hb6.cell (p:=⟨b,off+i*10+5,none⟩) lb).trans f5,(hb6.cell (p:=⟨b,off+i*10+6,none⟩) lb).trans f6,(hb6.cell (p:=⟨b,off+i*10+7,none⟩) lb).trans f7,(hb6.cell (p:=⟨b,off+i*10+8,none⟩) lb).trans f8,(hb6.cell (p:=⟨b,off+i*10+9,none⟩) lb).trans f9⟩
     | exact⟨(hb6.cell (p:=⟨w.heap.size,0,none⟩) (Nat.lt_of_lt_of_le lw hb5.size)).trans ((hb5.cell (p:=⟨w.heap.size,0,none⟩) lw).trans c0),(hb6.cell (p:=⟨w.heap.size,1,none⟩) (Nat.lt_of_lt_of_le lw hb5.size)).trans ((hb5.cell (p:=⟨w.heap.size,1,none⟩) lw).trans c1),(hb6.cell (p:=⟨w.heap.size,2,none⟩) (Nat.lt_of_lt_of_le lw hb5.size)).trans ((hb5.cell (p:=⟨w.heap.size,2,none⟩) lw).trans c2),(hb6.cell (p:=⟨w.heap.size,3,none⟩) (Nat.lt_of_lt_of_le lw hb5.size)).trans ((hb5.cell (p:=⟨w.heap.size,3,none⟩) lw).trans c3),(hb6.cell (p:=⟨w.heap.size,4,none⟩) (Nat.lt_of_lt_of_le lw hb5.size)).trans ((hb5.cell (p:=⟨w.heap.size,4,none⟩) lw).trans c4),(hb6.cell (p:=⟨w.heap.size,5,none⟩) (Nat.lt_of_lt_of_le lw hb5.size)).trans ((hb5.cell (p:=⟨w.heap.size,5,none⟩) lw).trans c5),(hb6.cell (p:=⟨w.heap.size,6,none⟩) (Nat.lt_of_lt_of_le lw hb5.size)).trans ((hb5.cell (p:=⟨w.heap.size,6,none⟩) lw).trans c6),(hb6.cell (p:=⟨w.heap.size,7,none⟩) (Nat.lt_of_lt_of_le lw hb5.size)).trans ((hb5.cell (p:=⟨w.heap.size,7,none⟩) lw).trans c7),(hb6.cell (p:=⟨w.heap.size,8,none⟩) (Nat.lt_of_lt_of_le lw hb5.size)).trans ((hb5.cell (p:=⟨w.heap.size,8,none⟩) lw).trans c8),(hb6.cell (p:=⟨w.heap.size,9,none⟩) (Nat.lt_of_lt_of_le lw hb5.size)).trans ((hb5.cell (p:=⟨w.heap.size,9,none⟩) lw).trans c9),(hb6.cell (p:=⟨c,0,none⟩) (Nat.lt_of_lt_of_le lc hb5.size)).trans ((hb5.cell (p:=⟨c,0,none⟩) lc).trans k0),(hb6.cell (p:=⟨b,off+i*10,none⟩) (Nat.lt_of_lt_of_le lb hb5.size)).trans ((hb5.cell (p:=⟨b,off+i*10,none⟩) lb).trans f0),(hb6.cell (p:=⟨b,off+i*10+1,none⟩) (Nat.lt_of_lt_of_le lb hb5.size)).trans ((hb5.cell (p:=⟨b,off+i*10+1,none⟩) lb).trans f1),(hb6.cell (p:=⟨b,off+i*10+2,none⟩) (Nat.lt_of_lt_of_le lb hb5.size)).trans ((hb5.cell (p:=⟨b,off+i*10+2,none⟩) lb).trans f2),(hb6.cell (p:=⟨b,off+i*10+3,none⟩) (Nat.lt_of_lt_of_le lb hb5.size)).trans ((hb5.cell (p:=⟨b,off+i*10+3,none⟩) lb).trans f3),(hb6.cell (p:=⟨b,off+i*10+4,none⟩) (Nat.lt_of_lt_of_le lb hb5.size)).trans ((hb5.cell (p:=⟨b,off+i*10+4,none⟩) lb).trans f4),(hb6.cell (p:=⟨b,off+i*10+5,none⟩) (Nat.lt_of_lt_of_le lb hb5.size)).trans ((hb5.cell (p:=⟨b,off+i*10+5,none⟩) lb).trans f5),(hb6.cell (p:=⟨b,off+i*10+6,none⟩) (Nat.lt_of_lt_of_le lb hb5.size)).trans ((hb5.cell (p:=⟨b,off+i*10+6,none⟩) lb).trans f6),(hb6.cell (p:=⟨b,off+i*10+7,none⟩) (Nat.lt_of_lt_of_le lb hb5.size)).trans ((hb5.cell (p:=⟨b,off+i*10+7,none⟩) lb).trans f7),(hb6.cell (p:=⟨b,off+i*10+8,none⟩) (Nat.lt_of_lt_of_le lb hb5.size)).trans ((hb5.cell (p:=⟨b,off+i*10+8,none⟩) lb).trans f8),(hb6.cell (p:=⟨b,off+i*10+9,none⟩) (Nat.lt_of_lt_of_le lb hb5.size)).trans ((hb5.cell (p:=⟨b,off+i*10+9,none⟩) lb).trans f9)⟩
     | exact⟨(hb5.cell (p:=⟨w.heap.size,0,none⟩) (Nat.lt_of_lt_of_le lw hb6.size)).trans ((hb6.cell (p:=⟨w.heap.size,0,none⟩) lw).trans c0),(hb5.cell (p:=⟨w.heap.size,1,none⟩) (Nat.lt_of_lt_of_le lw hb6.size)).trans ((hb6.cell (p:=⟨w.heap.size,1,none⟩) lw).trans c1),(hb5.cell (p:=⟨w.heap.size,2,none⟩) (Nat.lt_of_lt_of_le lw hb6.size)).trans ((hb6.cell (p:=⟨w.heap.size,2,none⟩) lw).trans c2),(hb5.cell (p:=⟨w.heap.size,3,none⟩) (Nat.lt_of_lt_of_le lw hb6.size)).trans ((hb6.cell (p:=⟨w.heap.size,3,none⟩) lw).trans c3),(hb5.cell (p:=⟨w.heap.size,4,none⟩) (Nat.lt_of_lt_of_le lw hb6.size)).trans ((hb6.cell (p:=⟨w.heap.size,4,none⟩) lw).trans c4),(hb5.cell (p:=⟨w.heap.size,5,none⟩) (Nat.lt_of_lt_of_le lw hb6.size)).trans ((hb6.cell (p:=⟨w.heap.size,5,none⟩) lw).trans c5),(hb5.cell (p:=⟨w.heap.size,6,none⟩) (Nat.lt_of_lt_of_le lw hb6.size)).trans ((hb6.cell (p:=⟨w.heap.size,6,none⟩) lw).trans c6),(hb5.cell (p:=⟨w.heap.size,7,none⟩) (Nat.lt_of_lt_of_le lw hb6.size)).trans ((hb6.cell (p:=⟨w.heap.size,7,none⟩) lw).trans c7),(hb5.cell (p:=⟨w.heap.size,8,none⟩) (Nat.lt_of_lt_of_le lw hb6.size)).trans ((hb6.cell (p:=⟨w.heap.size,8,none⟩) lw).trans c8),(hb5.cell (p:=⟨w.heap.size,9,none⟩) (Nat.lt_of_lt_of_le lw hb6.size)).trans ((hb6.cell (p:=⟨w.heap.size,9,none⟩) lw).trans c9),(hb5.cell (p:=⟨c,0,none⟩) (Nat.lt_of_lt_of_le lc hb6.size)).trans ((hb6.cell (p:=⟨c,0,none⟩) lc).trans k0),(hb5.cell (p:=⟨b,off+i*10,none⟩) (Nat.lt_of_lt_of_le lb hb6.size)).trans ((hb6.cell (p:=⟨b,off+i*10,none⟩) lb).trans f0),(hb5.cell (p:=⟨b,off+i*10+1,none⟩) (Nat.lt_of_lt_of_le lb hb6.size)).trans ((hb6.cell (p:=⟨b,off+i*10+1,none⟩) lb).trans f1),(hb5.cell (p:=⟨b,off+i*10+2,none⟩) (Nat.lt_of_lt_of_le lb hb6.size)).trans ((hb6.cell (p:=⟨b,off+i*10+2,none⟩) lb).trans f2),(hb5.cell (p:=⟨b,off+i*10+3,none⟩) (Nat.lt_of_lt_of_le lb hb6.size)).trans ((hb6.cell (p:=⟨b,off+i*10+3,none⟩) lb).trans f3),(hb5.cell (p:=⟨b,off+i*10+4,none⟩) (Nat.lt_of_lt_of_le lb hb6.size)).trans ((hb6.cell (p:=⟨b,off+i*10+4,none⟩) lb).trans f4),(hb5.cell (p:=⟨b,off+i*10+5,none⟩) (Nat.lt_of_lt_of_le lb hb6.size)).trans ((hb6.cell (p:=⟨b,off+i*10+5,none⟩) lb).trans f5),(hb5.cell (p:=⟨b,off+i*10+6,none⟩) (Nat.lt_of_lt_of_le lb hb6.size)).trans ((hb6.cell (p:=⟨b,off+i*10+6,none⟩) lb).trans f6),(hb5.cell (p:=⟨b,off+i*10+7,none⟩) (Nat.lt_of_lt_of_le lb hb6.size)).trans ((hb6.cell (p:=⟨b,off+i*10+7,none⟩) lb).trans f7),(hb5.cell (p:=⟨b,off+i*10+8,none⟩) (Nat.lt_of_lt_of_le lb hb6.size)).trans ((hb6.cell (p:=⟨b,off+i*10+8,none⟩) lb).trans f8),(hb5.cell (p:=⟨b,off+i*10+9,none⟩) (Nat.lt_of_lt_of_le lb hb6.size)).trans ((hb6.cell (p:=⟨b,off+i*10+9,none⟩) lb).trans f9)⟩)
   (first
     | (go_at_call 74;(with_reducible refine(Hs x _).mono ?_);rintro e w5 ⟨rfl,hb5⟩)
     | (go_at_call 74;(with_reducible refine(Hs y _).mono ?_);rintro e w6 ⟨rfl,hb6⟩))
  all_goals
   first
   | (have B5:Hid (EB w w6 x):=(B3.out.step (show Below w3.heap.size w3 w5 from⟨hb5.os,hb5.tape,hb5.output,hb5.size,hb5.block⟩)).step hb6
      have C5:Hid (ke w6 c m1 m2 n2 (.slice A l.length cap) pre []):=(C3.out.below (show Below w3.heap.size w3 w5 from⟨hb5.os,hb5.tape,hb5.output,hb5.size,hb5.block⟩)).below hb6;generalize w6=wz at *)
   | (have B5:Hid (EB w w5 x):=(B3.out.step (show Below w3.heap.size w3 w6 from⟨hb6.os,hb6.tape,hb6.output,hb6.size,hb6.block⟩)).step hb5
      have C5:Hid (ke w5 c m1 m2 n2 (.slice A l.length cap) pre []):=(C3.out.below (show Below w3.heap.size w3 w6 from⟨hb6.os,hb6.tape,hb6.output,hb6.size,hb6.block⟩)).below hb5;generalize w5=wz at *)
   clear hq hb5 hb6 lb lw lc k0 c0 f0 c1 f1 c2 f2 c3 f3 c4 f4 c5 f5 c6 f6 c7 f7 c8 f8 c9 f9;cases cb
   ·have H:fW pre x=1:=by unfold fW;rw[F.out];simp[Y.out,CB.out]
    have R:Hid (mD pre x=1):=by show _=_;rw[vR Z.out P.out K.out (by rw[H];decide),H]
    clear H;go_wp2;go_ret;exact⟨aI R.out.symm,B5.out.bel⟩
   ·have H:Hid (fW pre x=0):=Dg F.out Y.out CB.out;go_wp2;go_meet;exact⟨B5,C5,fun _=>H.out⟩
 case rest=>
  obtain⟨B3,C3,H4⟩:=hcut;clear B2 C2;have c0:=B3.out.blk.cell 0 _ rfl;go_wp2_with fail;refine(ov x.path _ (by have:=(rt Z.out);omega)).mono ?_;rintro e w4 ⟨Ap,cp,rfl,hr,hb4⟩;have B4:=ae (B3.out.step hb4);have C4:=ae (C3.out.below hb4);have R4:=ae (bD hr);clear hr hb4 B3 C3 c0;have hpl:(aV x.path).length<=200:=by have:=tM x.path;have:=rt Z.out;omega
  go_wp2;go_loopw [73] (fun i wr=>∃ (k:Nat),k<=(aV x.path).length/\i=.int .i64 k/\Hid (EB w wr x)/\Hid (ke wr c m1 m2 n2 (.slice A l.length cap) pre [])/\Hid (Rd wr 1 Ap (aV x.path).length (ay (aV x.path)))/\Hid (∀ s∈(aV x.path).take k,∀ y,cT pre s=some y->y.kind=2)) (fun i _=>(aV x.path).length-(intOf i).toNat)
  case atStart=>exact⟨0,z0,rfl,B4,C4,R4,by intro s hs;simp at hs⟩
  case round=>
   obtain⟨k,hk,rfl,B5,C5,R5,U5⟩:=hrel;clear B4 C4 R4;by_cases hlt:k<(aV x.path).length
   case pos=>
    obtain⟨s,hs⟩:∃ s,(aV x.path)[k]?=some s:=⟨_,gG hlt⟩
    obtain⟨bp,op,hAp,hep⟩:=R5.out.str k s hs;have hixp:=fun W=>aB (T:=22) (E:=9) (sz:=1) (c:=cp) Tryz.underlying22 rfl Tryz.sizeOf9 hAp hlt W;simp only[Nat.mul_one] at hixp;have hsm:=rJ (gM hs);have SX:=ae hs;have k0:=C5.out.blk.cell 0 _ rfl;have k1:=C5.out.blk.cell 1 _ rfl;have q1:=C5.out.look0 s (by have:=HS.out.path;unfold maxLen;omega);have TK:=ae (kB hs);clear hs hAp hsm;rcases jZ pre s with⟨p1,p2⟩ | ⟨i,y,p1,p2,p3,p4⟩
    case inl=>
     rw[p1] at q1;simp only[Option.getD_none,Option.isSome_none] at q1;have U6:Hid (∀ s∈(aV x.path).take (k+1),∀ y,cT pre s=some y->y.kind=2):=by
      intro t ht y hy;rw[TK.out] at ht;rcases List.mem_append.1 ht with ht | ht
      ·exact U5.out t ht y hy
      ·rw[List.mem_singleton.1 ht,p2] at hy;cases hy
     clear p1 p2;go_wp2;go_roundw
     case rel=>exact⟨k+1,by omega,by go_num,B5,C5,R5,U6⟩
     case measure=>simp[intOf];omega
    rw[p1] at q1;simp only[Option.getD_some,Option.isSome_some] at q1;obtain⟨b,off,hA,hel⟩:=((HE.out.below B5.out.bel).row).elem bi i y (HP.out i y p2);have hi:i<l.length:=(gS (HP.out i y p2)).1;have hix:=fun W=>aB (T:=28) (E:=35) (sz:=10) (c:=cap) Tryz.underlying28 rfl Tryz.sizeOf35 hA hi W;have e1:=hel 1 _ rfl;have F:=ae p3;clear p1 p2 p3 p4 hA hel;by_cases hy:y.kind=2
    case neg=>
     have q2:(y.kind != 2)=true:=by simpa using hy
     have R:Hid (mD pre x=9):=Ro Z.out P.out H4.out (gM SX.out) F.out hy;clear hy;go_wp2;go_ret;exact⟨aI R.out.symm,B5.out.bel⟩
    have q2:(y.kind != 2)=false:=by simp[hy]
    have U6:Hid (∀ s∈(aV x.path).take (k+1),∀ y,cT pre s=some y->y.kind=2):=by
     intro t ht z hz;rw[TK.out] at ht;rcases List.mem_append.1 ht with ht | ht
     ·exact U5.out t ht z hz
     ·rw[List.mem_singleton.1 ht,F.out] at hz;injection hz with hz;rw[<-hz];exact hy
    clear hy;go_wp2;go_roundw
    case rel=>exact⟨k+1,by omega,by go_num,B5,C5,R5,U6⟩
    case measure=>simp[intOf];omega
   obtain rfl:k=(aV x.path).length:=by omega
   have U:Hid (∀ s∈aV x.path,∀ y,cT pre s=some y->y.kind=2):=by have:=U5.out;rw[List.take_length] at this;exact this
   have c0:=B5.out.blk.cell 0 _ rfl;have c1:=B5.out.blk.cell 1 _ rfl;have k2:=C5.out.blk.cell 2 _ rfl;obtain⟨z,q1⟩:=C5.out.look2 x.path hps;obtain⟨ab,hab⟩:∃ ab,mN pre x.path=ab:=⟨_,rfl⟩
   rw[hab] at q1;have AB:=ae hab;clear hab hlt U5;cases ab
   ·have R:Hid (mD pre x=0):=Dh Z.out P.out H4.out U.out (.inr AB.out);go_wp2;go_quiet (fail);go_wp2;go_ret;exact⟨aI R.out.symm,am B5.out.bel _⟩
   ·by_cases hk2:x.kind=2
    ·have q2:(x.kind != 2)=false:=by simp[hk2]
     have R:Hid (mD pre x=0):=Dh Z.out P.out H4.out U.out (.inl hk2);clear hk2;go_wp2;go_quiet (fail);go_wp2;go_ret;exact⟨aI R.out.symm,am B5.out.bel _⟩
    ·have q2:(x.kind != 2)=true:=by simpa using hk2
     have R:Hid (mD pre x=9):=Kh Z.out P.out H4.out hk2 AB.out;clear hk2;go_wp2;go_quiet (fail);go_wp2;go_ret;exact⟨aI R.out.symm,am B5.out.bel _⟩
structure xz (w wr:World) (V:Value) (p1 p2:List ag) (ps:List BA) (n2:Nat):Prop where
 blk:ax wr (w.heap.size+1+1) [V,.map (some w.heap.size),.map (some (w.heap.size+1))]
 one:bm wr w.heap.size p1.length (QH p1)
 two:wu wr (w.heap.size+1) n2 p2 ps
 bel:Below w.heap.size w wr
theorem xz.below {p1 p2:List ag}(h:xz w wr V p1 p2 ps n2)(hb:Below wr.heap.size wr w'):xz w w' V p1 p2 ps n2:=
 ⟨h.blk.below hb,h.one.below hb,h.two.below hb,aq h.bel hb⟩
theorem xz.ck {p:List ag}(h:xz w wr V p p [] n2):ke wr (w.heap.size+1+1) w.heap.size (w.heap.size+1) n2 V p []:=⟨h.blk,h.one,h.two⟩
theorem xA {l:List ag}(h:cT l s=none):dt l s=none:=by
 rcases jZ l s with⟨h1,_⟩ | ⟨i,y,_,_,h3,_⟩
 ·exact h1
 ·rw[h] at h3;cases h3
theorem xz.put1 {p:List ag}{x:ag}(h:xz w wr V p p [] n2)(hf:cT p x.path=none)(hm:bm w' w.heap.size (p.length+1) (fun s=>if s=x.path then some (.int .i64 p.length) else QH p s))(hg:wr.grownBy w' (some w.heap.size)):
  xz w w' V (p++[x]) p [] n2:=by
 refine⟨h.blk.grownC hg (by omega),?_,h.two.kept hg (by intro e;injection e with e;omega),h.bel.grown hg h.bel.size (fun j hj=>by injection hj with hj;omega)⟩;rw[LC (xA hf),List.length_append];exact hm
theorem xz.put2 {p1 p2:List ag}(h:xz w wr V p1 p2 ps n2)(hm:wu w' (w.heap.size+1) (n2+1) p2 (ps++[s]))(hg:wr.grownBy w' (some (w.heap.size+1))):
  xz w w' V p1 p2 (ps++[s]) (n2+1):=
 ⟨h.blk.grownC hg (by omega),h.one.kept hg (by intro e;injection e with e;omega),hm,h.bel.grown hg h.bel.size (fun j hj=>by injection hj with hj;omega)⟩
theorem xz.next {p:List ag}{x:ag}(h:xz w wr V (p++[x]) p (aV x.path) n2):xz w wr V (p++[x]) (p++[x]) [] n2:=⟨h.blk,h.one,h.two.next,h.bel⟩
theorem Po {l:List ag}{x:ag}(hn:¬ 4096<l.length)(h:l[k]?=some x)(h0:fX [] l=fX (l.take k) (l.drop k))(he:mD (l.take k) x≠0):nF l=(k,mD (l.take k) x):=by
 unfold nF;rw[if_neg hn];exact Lk h h0 he
theorem Pp {l:List ag}(hn:¬ 4096<l.length)(hk:l.length<=k)(h0:fX [] l=fX (l.take k) (l.drop k)):nF l=(0,0):=by
 unfold nF;rw[if_neg hn];exact Ll hk h0
def Pq (l:List ag):Value:=.tuple #[.int .i64 ((nF l).1:Nat),.int .i64 (nF l).2]
theorem ns (A:OA)(cap:Nat)(l:List ag)(w:World)(hG:Gl w)(hE:cV w A l)(hl:l.length<=100000)(hs:∀ x∈l,x.small):Calls Tryz.prog 33 #[.slice A l.length cap] w fun e w'=>e=.returned (Pq l)/\Below w.heap.size w w':=by
 have HG:=ae hG;have HE:=ae hE;have HS:=ae hs;clear hG hE hs;by_cases hn:4096<l.length
 ·have R:Hid (Pq l=.tuple #[.int .i64 4096,.int .i64 4]):=by show _=_;unfold Pq nF;rw[if_pos hn];rfl
  have hn1:(4096:Int)<(l.length:Int):=by omega
  go_in;go_wp2;go_ret2;exact⟨by rw[R.out];rfl,bR⟩
 have hn1:¬ (4096:Int)<(l.length:Int):=by omega
 obtain⟨W1,hW1⟩:∃ W1,((w.alloc (.map #[] 0)).alloc (.map #[] 0)).alloc (.cells #[.slice A l.length cap,.map (some w.heap.size),.map (some (w.heap.size+1))] 120)=W1:=⟨_,rfl⟩
 have I1:Hid (xz w W1 (.slice A l.length cap) [] [] [] 0):=by
  show xz _ _ _ _ _ _ _;rw[<-hW1];have m1:=bm.made w;have m2:=wu.made (w.alloc (.map #[] 0));have b:=ax.new ((w.alloc (.map #[] 0)).alloc (.map #[] 0)) [.slice A l.length cap,.map (some w.heap.size),.map (some (w.heap.size+1))] 120;simp only[World.size_alloc] at m2 b;exact⟨b,(m1.below (bR.alloc lr _)).below (bR.alloc lr _),m2.below (bR.alloc lr _),((bR.alloc lr _).alloc (by simp) _).alloc (by simp;omega) _⟩
 have hmm:=@run_makeMap Tryz.prog;go_in;go_wp2_with fail;clear hmm hW1;go_loopw [20] (fun i wr=>∃ (k n2:Nat),k<=l.length/\n2<=200*k/\i=.int .i64 k/\Hid (fX [] l=fX (l.take k) (l.drop k))/\Hid (xz w wr (.slice A l.length cap) (l.take k) (l.take k) [] n2)) (fun i _=>l.length-(intOf i).toNat)
 case atStart=>exact⟨0,0,z0,z0,rfl,rfl,I1⟩
 case round=>
  obtain⟨k,n2,hk,hn2,rfl,HA,HI⟩:=hrel;clear I1;by_cases hlt:k<l.length
  case neg=>
   have R:Hid (Pq l=.tuple #[.int .i64 0,.int .i64 0]):=by show _=_;unfold Pq;rw[Pp hn (by omega) HA.out];rfl
   go_wp2;go_ret2;exact⟨by rw[R.out];rfl,HI.out.bel⟩
  obtain⟨x,hx⟩:∃ x,l[k]?=some x:=⟨_,gG hlt⟩
  obtain⟨b,off,hA,hel⟩:=((HE.out.below HI.out.bel).row).elem bi k x hx;have hix:=fun W=>aB (T:=28) (E:=35) (sz:=10) (c:=cap) Tryz.underlying28 rfl Tryz.sizeOf35 hA hlt W;have e0:=hel 0 _ rfl;have e1:=hel 1 _ rfl;have e2:=hel 2 _ rfl;have e3:=hel 3 _ rfl;have e4:=hel 4 _ rfl;have e5:=hel 5 _ rfl;have e6:=hel 6 _ rfl;have e7:=hel 7 _ rfl;have e8:=hel 8 _ rfl;have e9:=hel 9 _ rfl;simp only[Nat.add_zero] at e0;have HX:=ae hx;have SX:=ae (HS.out x (gM hx));clear hx hA hel;obtain⟨wo,rfl⟩:∃ wo:World,wo=wr:=⟨_,rfl⟩
  have hz0:w.heap.size+1<wo.heap.size:=HI.out.two.lt;obtain⟨W2,hW2⟩:∃ W2,wo.alloc (.cells #[.string x.path,.int .i64 x.kind,.int .i64 x.mode,.int .i64 x.uid,.int .i64 x.gid,.string x.owner,.string x.group,.int .i64 x.mtime,.string x.link,.slice x.da x.data.length x.dc] 35)=W2:=⟨_,rfl⟩
  have B2:Hid (EB wo W2 x):=by show EB _ _ _;rw[<-hW2];exact EB.start wo x
  have I2:=ae (HI.out.below B2.out.bel);have HW2:=ae hW2;clear hW2;go_wp2_with fail;rw[HW2.out];clear HW2 hix e0 e1 e2 e3 e4 e5 e6 e7 e8 e9;have CK:=Di A cap l (l.take k) _ _ _ _ x W2 (HG.out.below I2.out.bel) (HE.out.below I2.out.bel) I2.out.ck (fun i y hy=>by rw[List.getElem?_take] at hy;split at hy;exact hy;cases hy) SX.out hl;unfold ag.val at CK;refine CK.mono ?_;rintro e w3 ⟨rfl,hb3⟩;have B3:=ae (B2.out.step hb3);have I3:=ae (I2.out.below hb3);clear hb3 CK B2 I2 HI;by_cases he:mD (l.take k) x=0
  case neg=>
   have q:(mD (l.take k) x != 0)=true:=by simpa using he
   have R:Hid (Pq l=.tuple #[.int .i64 k,.int .i64 (mD (l.take k) x)]):=by show _=_;unfold Pq;rw[Po hn HX.out HA.out he]
   clear he;go_wp2;go_ret2;exact⟨by rw[R.out];rfl,I3.out.bel⟩
  rw[he];have HA2:=ae (In HX.out HA.out he);obtain⟨g1,g2,_⟩:=jN he;have G1:=ae g1;have G2:=ae g2;have hp2:=rt g1;clear he g1 g2 HA;have b0:=B3.out.blk.cell 0 _ rfl;have k1:=I3.out.blk.cell 1 _ rfl;have hlen:(l.take k).length=k:=by rw[List.length_take];omega
  obtain⟨w4,hrun,hm,hg⟩:=(I3.out.one.below (show Below w3.heap.size w3 w3.drew from⟨rfl,rfl,rfl,lr,fun _ _=>rfl⟩)).put Tryz.underlying104 (by rw[hlen];unfold maxLen;omega) x.path (by unfold maxLen;omega) (.int .i64 k);have HM:=ae hm;have HGR:=ae hg;have B4:Hid (ax w4 wo.heap.size x.cells):=B3.out.blk.drew.grownC HGR.out (by omega);have I4:Hid (xz w w4 (.slice A l.length cap) (l.take k++[x]) (l.take k) [] n2):=by
   refine(I3.out.below (show Below w3.heap.size w3 w3.drew from⟨rfl,rfl,rfl,lr,fun _ _=>rfl⟩)).put1 G2.out ?_ HGR.out;have:=HM.out;rw[hlen] at this |-;exact this
  have hz4:w.heap.size+1<w4.heap.size:=I4.out.two.lt;clear hm hg;have d0:=B4.out.cell 0 _ rfl;have hdrop:=ae (kB HX.out);have HLEN:=ae hlen;clear hlen;go_wp2;go_region;go_wp2_with fail;refine(ov x.path _ (by omega)).mono ?_;rintro e w5 ⟨Ap,cp,rfl,hr,hb5⟩;have I5:=ae (I4.out.below hb5);have R5:=ae hr;clear hr hb5 d0 b0 k1 hrun B3 I3 B4 I4 HM HGR;have hpl:(aV x.path).length<=200:=by have:=tM x.path;omega
  go_wp2;go_loopw [43] (fun j wr=>∃ (m:Nat),m<=(aV x.path).length/\j=.int .i64 m/\Hid (xz w wr (.slice A l.length cap) (l.take k++[x]) (l.take k) ((aV x.path).take m) (n2+m))/\Hid (wr.ownsRow w4.heap.size 9 1 (.slice Ap (aV x.path).length cp) (aV x.path).length (ay (aV x.path)))) (fun j _=>(aV x.path).length-(intOf j).toNat)
  case atStart=>exact⟨0,z0,rfl,I5,R5⟩
  case round=>
   obtain⟨m,hm,rfl,I6,R6⟩:=hrel;clear I5 R5;by_cases hlt2:m<(aV x.path).length
   case neg=>
    have I7:Hid (xz w wr (.slice A l.length cap) (l.take (k+1)) (l.take (k+1)) [] (n2+m)):=by
     have:=I6.out;have hm2:(aV x.path).take m=aV x.path:=tL (by omega);rw[hm2] at this;rw[hdrop.out];exact this.next
    go_wp2;go_roundw
    case rel=>exact⟨k+1,n2+m,by omega,by omega,by go_num,HA2,I7⟩
    case measure=>simp[intOf];omega
   obtain⟨s,hs⟩:∃ s,(aV x.path)[m]?=some s:=⟨_,gG hlt2⟩
   obtain⟨bp,op,hAp,hep⟩:=(bD R6.out).str m s hs;have hixp:=fun W=>aB (T:=22) (E:=9) (sz:=1) (c:=cp) Tryz.underlying22 rfl Tryz.sizeOf9 hAp hlt2 W;simp only[Nat.mul_one] at hixp;have hsm:=rJ (gM hs);have TK:=ae (kB hs);clear hs hAp;have k2:=I6.out.blk.cell 2 _ rfl;obtain⟨w7,hrun,hm7,hg7⟩:=I6.out.two.put Tryz.underlying104 (by unfold maxLen;omega) s (by unfold maxLen;omega) (.int .i64 k);have I7:Hid (xz w w7 (.slice A l.length cap) (l.take k++[x]) (l.take k) ((aV x.path).take (m+1)) (n2+(m+1))):=by
    have:=I6.out.put2 hm7 hg7;rw[TK.out];exact this
   have R7:Hid (w7.ownsRow w4.heap.size 9 1 (.slice Ap (aV x.path).length cp) (aV x.path).length (ay (aV x.path))):=aP R6.out hz4 hg7;clear hm7 hg7;go_wp2;go_roundw
   case rel=>exact⟨m+1,by omega,by go_num,I7,R7⟩
   case measure=>simp[intOf];omega
end
end Go.Proofs.YtlglfpbhapmhiaaGreatDoor
