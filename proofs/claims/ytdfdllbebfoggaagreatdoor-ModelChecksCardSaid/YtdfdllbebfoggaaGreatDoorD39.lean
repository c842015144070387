/- A part of the proof that ModelChecks holds. No condition. -/
import Derived.Test.YtdfdllbebfoggaaGreatDoorD17
import Derived.Test.YtdfdllbebfoggaaGreatDoorD24
import Derived.Test.YtdfdllbebfoggaaGreatDoorD25
import Derived.Test.YtdfdllbebfoggaaGreatDoorD29
set_option maxRecDepth 100000
set_option maxHeartbeats 20000000
set_option linter.unusedVariables false
set_option linter.unusedSimpArgs false
namespace Go.Proofs.YtdfdllbebfoggaaGreatDoor
section
open Go.RowKit Go.Deep
theorem ref_file9 (fmt:Int)(f:FileM)(w:World)(hk:f.kind<1∨3<f.kind):
  Calls Tryz.prog 75 #[.int .i64 fmt,f.val] w fun e w'=>e=.returned (.int .i64 9)∧Below w.heap.size w w':=by
 have HW:Hid (Below w.heap.size w (w.alloc (.cells #[.string f.path,.int .i64 f.kind,.int .i64 f.mode,.string f.owner,.string f.group,.string f.link,.string f.sum,.bool f.conf] 46))):=bR.alloc lr _
 unfold FileM.val
 by_cases h1:f.kind<1
 ·have d1:decide (f.kind<1)=true:=dT h1
  go_enter Tryz.func75,Tryz.ntmps75
  go_wp2_with fail
  go_ret
  exact⟨rfl,HW.out⟩
 ·have d1:decide (f.kind<1)=false:=dF h1
  have d2:decide (3<f.kind)=true:=dT (by omega)
  go_enter Tryz.func75,Tryz.ntmps75
  go_wp2_with fail
  go_ret
  exact⟨rfl,HW.out⟩
def pkW (fo no:Bool)(ev:Int)(ao so ndo bo go:Bool)(fe:BA×Int)(se:Int):BA×Int:=
 if fo=false then (⟨#[102,111,114,109,97,116]⟩,9) else if no=false then (⟨#[110,97,109,101]⟩,10) else if ev≠0 then (⟨#[118,101,114,115,105,111,110]⟩,ev) else if ao=false then (⟨#[97,114,99,104]⟩,1) else if so=false then (⟨#[115,117,109,109,97,114,121]⟩,3)
 else if ndo=false then (⟨#[110,101,101,100,115]⟩,3) else if bo=false then (⟨#[98,97,114,115]⟩,3) else if go=false then (⟨#[103,105,118,101,115]⟩,3) else if fe.2≠0 then fe else (⟨#[115,99,114,105,112,116,115]⟩,se)
def pkV (r:BA×Int):Value:=.tuple #[.string r.1,.int .i64 r.2]
theorem arch_self (n:Int)(h:fmtB n=true)(x:BA):(archOf n n x).2=0↔archIn n x=true:=by
 unfold archOf archIn
 rw[h]
 simp only[Bool.true_eq_false,or_self,if_false]
 repeat' split
 all_goals simp_all
theorem filesE_code {fmt:Int}:∀ (l pre:List FileM)(q:BA)(e:Int),filesE fmt pre l=some (q,e)→e≠0
 | [],_,_,_,h=>by cases h
 | f::r,pre,q,e,h=>by
  unfold filesE at h
  split at h
  ·exact filesE_code r _ q e h
  ·rename_i h0;injection h with h;injection h with _ h;exact h ▸ h0
theorem geq_bl (s t:BA):(!Op.bytesLess s.toList t.toList)=!decide (bl s<bl t):=by rw[bytesLess_dec,bl_toList,bl_toList]
theorem pk_file {fa:BA×Int}{se:Int}(h:fa.2≠0):pkW true true 0 true true true true true fa se=fa:=by simp[pkW,h]
structure PB (w wr:World) (p:PkL):Prop where
 k:Blk wr w.heap.size p.cells
 b:Below w.heap.size w wr
theorem PB.below {w wr w':World}{p:PkL}(h:PB w wr p)(hb:Below wr.heap.size wr w'):PB w w' p:=⟨h.k.below hb,bthen h.b hb⟩
theorem PB.start (w:World)(p:PkL):PB w (w.alloc (.cells p.cells.toArray 27)) p:=⟨Blk.new w _ _,bR.alloc lr _⟩
theorem r19_Package (fmt:Int)(p:PkL)(w:World)(hp:p.ok w)(hnm:p.nm.size≤4294967280)(hver:p.ver.size≤4294967280)(hsm:p.sm.size≤4294967280)(hbl:p.bars.length≤4294967280)(hfl:p.files.length≤4294967280)
  (hff:∀ x∈p.files,x.path.size≤4294967280∧x.owner.size≤4294967280∧x.group.size≤4294967280∧x.link.size≤4294967280∧x.sum.size≤4294967280)(hsl:p.scripts.length≤4294967280)(hsf:∀ x∈p.scripts,x.body.size≤4294967280)
  (ndo bo go:Bool)
  (hN:fmtB fmt=true→∀ W,Below w.heap.size w W→Calls Tryz.prog 72 #[.int .i64 fmt,.slice p.na p.needs.length p.nc] W fun e w'=>e=.returned (.bool ndo)∧Below W.heap.size W w')
  (hB:fmtB fmt=true→∀ W,Below w.heap.size w W→Calls Tryz.prog 72 #[.int .i64 fmt,.slice p.ba p.bars.length p.bc] W fun e w'=>e=.returned (.bool bo)∧Below W.heap.size W w')
  (hGv:fmtB fmt=true→∀ W,Below w.heap.size w W→Calls Tryz.prog 73 #[.int .i64 fmt,.slice p.ga p.gives.length p.gc] W fun e w'=>e=.returned (.bool go)∧Below W.heap.size W w'):
  Calls Tryz.prog 39 #[.int .i64 fmt,p.val] w fun e w'=>e=.returned (pkV (pkW (fmtB fmt) (dnameB (bl p.nm)) (verE fmt p.ver) (archIn fmt p.ar) (sumB (bl p.sm)) ndo (bo && !(decide (fmt=3)&&decide (0<p.bars.length))) go (filesAns fmt p.files) (scriptsE fmt p.scripts)))∧Below w.heap.size w w':=by
 have HP:=hid hp;have HFF:=hid hff;have HSF:=hid hsf;have HN:=hid hN;have HBC:=hid hB;have HGV:=hid hGv
 have P0:=hid (PB.start w p)
 clear hp hff hsf hN hB hGv
 generalize hPK:pkV _=PK
 have HPK:=hid hPK
 clear hPK
 unfold PkL.val
 by_cases hfm:fmtB fmt=false
 ·have E:Hid (PK=.tuple #[.string ⟨#[102,111,114,109,97,116]⟩,.int .i64 9]):=by show _=_;rw[←HPK.out];unfold pkW;rw[if_pos hfm];rfl
  have hf':fmt<1∨3<fmt:=by simp[fmtB] at hfm;omega
  by_cases h1:fmt<1
  ·have d1:decide (fmt<1)=true:=dT h1
   go_enter Tryz.func39,Tryz.ntmps39
   go_wp2_with fail
   go_ret2
   exact⟨by rw[E.out];rfl,P0.out.b⟩
  ·have d1:decide (fmt<1)=false:=dF h1
   have d2:decide (3<fmt)=true:=dT (by omega)
   go_enter Tryz.func39,Tryz.ntmps39
   go_wp2_with fail
   go_ret2
   exact⟨by rw[E.out];rfl,P0.out.b⟩
 have hfm1:fmtB fmt=true:=by simpa using hfm
 have hfmt:fmt=1∨fmt=2∨fmt=3:=by simpa [fmtB] using hfm1
 have HFM:=hid hfmt
 have d1:decide (fmt<1)=false:=dF (by omega)
 have d2:decide (3<fmt)=false:=dF (by omega)
 have hNm:=fun W=>r14_Name p.nm W (by omega)
 have HN1:=hid (HN.out hfm1);have HB1:=hid (HBC.out hfm1);have HG1:=hid (HGV.out hfm1)
 have HF1:=hid hfm1
 clear HN HBC HGV hfm hfmt
 have c0:=P0.out.k.cell 0 _ rfl
 go_enter Tryz.func39,Tryz.ntmps39
 go_wp2_with fail
 have P1:Hid (PB w (w.alloc (.cells #[.string p.nm,.string p.ver,.string p.ar,.string p.sm,.slice p.na p.needs.length p.nc,.slice p.ba p.bars.length p.bc,.slice p.ga p.gives.length p.gc,.slice p.fa p.files.length p.fc,.slice p.sa p.scripts.length p.sc] 27)) p):=P0.out
 generalize w.alloc (.cells #[.string p.nm,.string p.ver,.string p.ar,.string p.sm,.slice p.na p.needs.length p.nc,.slice p.ba p.bars.length p.bc,.slice p.ga p.gives.length p.gc,.slice p.fa p.files.length p.fc,.slice p.sa p.scripts.length p.sc] 27)=w1 at P1 ⊢
 clear P0 c0 d1 d2
 refine(hNm _).mono ?_;rintro e w' ⟨rfl,rfl⟩
 clear hNm
 cases hno:dnameB (bl p.nm) with
 | false=>
  have E:Hid (PK=.tuple #[.string ⟨#[110,97,109,101]⟩,.int .i64 10]):=by show _=_;rw[←HPK.out];unfold pkW;rw[HF1.out,hno];rfl
  clear hno
  go_wp2_with fail
  go_ret2
  exact⟨by rw[E.out];rfl,P1.out.b⟩
 | true=>
 have HPK1:Hid (pkV (pkW true true (verE fmt p.ver) (archIn fmt p.ar) (sumB (bl p.sm)) ndo (bo && !(decide (fmt=3)&&decide (0<p.bars.length))) go (filesAns fmt p.files) (scriptsE fmt p.scripts))=PK):=by have:=HPK.out;rw[HF1.out,hno] at this;exact this
 clear hno
 have c1:=P1.out.k.cell 1 _ rfl
 go_wp2_with fail
 refine(r12_Check fmt p.ver _ (by omega)).mono ?_;rintro e w2 ⟨rfl,hb2⟩
 have P2:=hid (P1.out.below hb2)
 clear hb2 c1 P1
 by_cases hv:¬ verE fmt p.ver=0
 ·have E:Hid (PK=.tuple #[.string ⟨#[118,101,114,115,105,111,110]⟩,.int .i64 (verE fmt p.ver)]):=by show _=_;rw[←HPK1.out];unfold pkW;rw[if_neg (by decide),if_neg (by decide),if_pos hv];rfl
  have hv1:(verE fmt p.ver != 0)=true:=by simp[hv]
  clear hv
  go_wp2_with fail
  go_ret2
  exact⟨by rw[E.out];rfl,P2.out.b⟩
 replace hv:=Decidable.not_not.1 hv
 have hv1:(verE fmt p.ver != 0)=false:=by simp[hv]
 have HPK2:Hid (pkV (pkW true true 0 (archIn fmt p.ar) (sumB (bl p.sm)) ndo (bo && !(decide (fmt=3)&&decide (0<p.bars.length))) go (filesAns fmt p.files) (scriptsE fmt p.scripts))=PK):=by have:=HPK1.out;rw[hv] at this;exact this
 clear hv
 have c2:=P2.out.k.cell 2 _ rfl
 go_wp2_with fail
 refine(ref_Arch fmt fmt p.ar _).mono ?_;rintro e w3 ⟨rfl,hb3⟩
 have P3:=hid (P2.out.below hb3)
 have HAS:=hid (arch_self fmt HF1.out p.ar)
 unfold archV
 generalize archOf fmt fmt p.ar=ra at HAS
 clear hb3 c2 P2 hv1
 by_cases ha:¬ ra.2=0
 ·have E:Hid (PK=.tuple #[.string ⟨#[97,114,99,104]⟩,.int .i64 1]):=by
   show _=_;rw[←HPK2.out];unfold pkW;rw[if_neg (by decide),if_neg (by decide),if_neg (by decide),if_pos (by cases hh:archIn fmt p.ar with
    | false=>rfl
    | true=>exact absurd (HAS.out.2 hh) ha)];rfl
  have ha1:(ra.2 != 0)=true:=by simp[ha]
  clear ha
  go_wp2_with fail
  go_ret2
  exact⟨by rw[E.out];rfl,P3.out.b⟩
 replace ha:=Decidable.not_not.1 ha
 have ha1:(ra.2 != 0)=false:=by simp[ha]
 have HPK3:Hid (pkV (pkW true true 0 true (sumB (bl p.sm)) ndo (bo && !(decide (fmt=3)&&decide (0<p.bars.length))) go (filesAns fmt p.files) (scriptsE fmt p.scripts))=PK):=by have:=HPK2.out;rw[HAS.out.1 ha] at this;exact this
 clear ha
 have c3:=P3.out.k.cell 3 _ rfl
 have hSm:=fun W=>ref_summary p.sm W (by omega)
 cases hso:sumB (bl p.sm) with
 | false=>
  have E:Hid (PK=.tuple #[.string ⟨#[115,117,109,109,97,114,121]⟩,.int .i64 3]):=by show _=_;rw[←HPK3.out,hso];rfl
  rw[hso] at hSm
  clear hso
  go_wp2_with fail
  refine(hSm _).mono ?_;rintro e w' ⟨rfl,rfl⟩
  go_wp2_with fail
  go_ret2
  exact⟨by rw[E.out];rfl,P3.out.b⟩
 | true=>
 have HPK4:Hid (pkV (pkW true true 0 true true ndo (bo && !(decide (fmt=3)&&decide (0<p.bars.length))) go (filesAns fmt p.files) (scriptsE fmt p.scripts))=PK):=by have:=HPK3.out;rw[hso] at this;exact this
 rw[hso] at hSm
 clear hso
 go_wp2_with fail
 refine(hSm _).mono ?_;rintro e w' ⟨rfl,rfl⟩
 clear c3 hSm ha1
 have c4:=P3.out.k.cell 4 _ rfl
 go_wp2_with fail
 refine(HN1.out _ P3.out.b).mono ?_;rintro e w4 ⟨rfl,hb4⟩
 have P4:=hid (P3.out.below hb4)
 clear hb4 c4 P3
 cases ndo with
 | false=>
  have E:Hid (PK=.tuple #[.string ⟨#[110,101,101,100,115]⟩,.int .i64 3]):=by show _=_;rw[←HPK4.out];rfl
  go_wp2_with fail
  go_ret2
  exact⟨by rw[E.out];rfl,P4.out.b⟩
 | true=>
 have c5:=P4.out.k.cell 5 _ rfl
 obtain⟨bl0,hbl0⟩:∃ bl0,p.bars.length=bl0:=⟨_,rfl⟩
 obtain⟨bn,hbn⟩:∃ bn,(!(bo && !(decide (fmt=3)&&decide (0<p.bars.length))))=bn:=⟨_,rfl⟩
 have HBN:Hid ((!bo||(decide (fmt=3)&&decide (0<bl0)))=bn):=by show _=_;rw[←hbn,hbl0];cases bo<;>simp
 have HPK5:Hid (pkV (pkW true true 0 true true true (!bn) go (filesAns fmt p.files) (scriptsE fmt p.scripts))=PK):=by have:=HPK4.out;rw[←hbn,Bool.not_not];exact this
 obtain⟨b3,hb3⟩:∃ b3,(fmt==3)=b3:=⟨_,rfl⟩
 have HB3:Hid (decide (fmt=3)=b3):=by show _=_;rw[←hb3];by_cases h:fmt=3<;>simp[h]
 rw[hbl0] at c5 HB1
 have HBL0:=hid hbl0
 clear hbn hbl0
 go_upto_region 15 with(fail)
 go_cut [65] (fun v wx=>v=.bool bn∧Hid (PB w wx p))
 case first=>
  go_wp2_with fail
  refine(HB1.out _ P4.out.b).mono ?_;rintro e w5 ⟨rfl,hb5⟩
  have P5:=hid (P4.out.below hb5)
  have c5':w5.cell? ⟨w.heap.size,5,none⟩=some (.slice p.ba bl0 p.bc):=by rw[←HBL0.out];exact(P4.out.k.below hb5).cell 5 _ rfl
  clear hb5
  cases bo with
  | false=>
   have E:Hid (bn=true):=by show _=_;rw[←HBN.out];rfl
   go_wp2_with fail
   go_meet
   exact⟨by rw[E.out],P5⟩
  | true=>
   cases b3 with
   | false=>
    have E:Hid (bn=false):=by show _=_;rw[←HBN.out,HB3.out];rfl
    go_wp2_with fail
    go_meet
    exact⟨by rw[E.out],P5⟩
   | true=>
    by_cases b0:0<bl0
    ·have E:Hid (bn=true):=by show _=_;rw[←HBN.out,HB3.out,dT b0];rfl
     have q1:decide ((0:Int)<(bl0:Int))=true:=dT (by omega)
     have q2:decide (0<bl0)=true:=dT b0
     go_wp2_with fail
     go_meet
     exact⟨by rw[E.out],P5⟩
    ·have E:Hid (bn=false):=by show _=_;rw[←HBN.out,HB3.out,dF b0];rfl
     have q1:decide ((0:Int)<(bl0:Int))=false:=dF (by omega)
     have q2:decide (0<bl0)=false:=dF b0
     go_wp2_with fail
     go_meet
     exact⟨by rw[E.out],P5⟩
 case rest=>
 obtain⟨rfl,P5⟩:=hcut
 clear P4 c5 HBN HB3 hb3
 cases bn with
 | true=>
  have E:Hid (PK=.tuple #[.string ⟨#[98,97,114,115]⟩,.int .i64 3]):=by show _=_;rw[←HPK5.out];rfl
  go_wp2_with fail
  go_ret2
  exact⟨by rw[E.out];rfl,P5.out.b⟩
 | false=>
 have c6:=P5.out.k.cell 6 _ rfl
 go_wp2_with fail
 refine(HG1.out _ P5.out.b).mono ?_;rintro e w6 ⟨rfl,hb6⟩
 have P6:=hid (P5.out.below hb6)
 clear hb6 c6 P5
 cases go with
 | false=>
  have E:Hid (PK=.tuple #[.string ⟨#[103,105,118,101,115]⟩,.int .i64 3]):=by show _=_;rw[←HPK5.out];rfl
  go_wp2_with fail
  go_ret2
  exact⟨by rw[E.out];rfl,P6.out.b⟩
 | true=>
 have HPK7:Hid (pkV (pkW true true 0 true true true true true (filesAns fmt p.files) (scriptsE fmt p.scripts))=PK):=HPK5.out
 clear HPK HPK1 HPK2 HPK3 HPK4 HPK5
 obtain⟨fl,hfle⟩:∃ fl,p.files.length=fl:=⟨_,rfl⟩
 have HFL:=hid hfle
 have c7:w6.cell? ⟨w.heap.size,7,none⟩=some (.slice p.fa fl p.fc):=by rw[←hfle];exact P6.out.k.cell 7 _ rfl
 have C7:=hid (fun (W:World) (h:PB w W p)=>(by rw[←hfle];exact h.k.cell 7 _ rfl:W.cell? ⟨w.heap.size,7,none⟩=some (.slice p.fa fl p.fc)))
 rw[hfle] at hfl
 clear hfle
 by_cases h512:512<fl
 ·have q1:decide ((512:Int)<(fl:Int))=true:=dT (by omega)
  have q2:decide (512<fl)=true:=dT h512
  have E:Hid (PK=.tuple #[.string ⟨#[102,105,108,101,115]⟩,.int .i64 4]):=by
   show _=_;rw[←HPK7.out,show filesAns fmt p.files=(⟨#[102,105,108,101,115]⟩,4) by unfold filesAns;rw[if_pos (by rw[HFL.out];exact h512)]];rfl
  go_wp2_with fail
  go_ret2
  exact⟨by rw[E.out];rfl,P6.out.b⟩
 have q1:decide ((512:Int)<(fl:Int))=false:=dF (by omega)
 have q2:decide (512<fl)=false:=dF h512
 have FB:Hid (∀ q e,filesE fmt [] p.files=some (q,e)→PK=.tuple #[.string q,.int .i64 e]):=fun q e h=>by
  rw[←HPK7.out,show filesAns fmt p.files=(q,e) by unfold filesAns;rw[if_neg (by rw[HFL.out];exact h512),h];rfl,pk_file (filesE_code _ _ _ _ h)];rfl
 have FG:Hid (filesE fmt [] p.files=none→PK=.tuple #[.string ⟨#[115,99,114,105,112,116,115]⟩,.int .i64 (scriptsE fmt p.scripts)]):=fun h=>by
  rw[←HPK7.out,show filesAns fmt p.files=(⟨#[]⟩,0) by unfold filesAns;rw[if_neg (by rw[HFL.out];exact h512),h];rfl];rfl
 have RDF:Hid (∀ W,Below w.heap.size w W→Rd W 8 p.fa p.files.length (p.files.flatMap FileM.cells)):=fun W h=>HP.out.files.below h
 clear HPK7
 go_wp2_with fail
 clear q1 q2 c7
 go_loopw [4,5,9] (fun s4 s5 i wr=>∃ k:Nat,s4=.string ⟨#[]⟩∧s5=.int .i64 0∧i=.int .i64 k∧k≤fl∧Hid (PB w wr p)∧Hid (filesE fmt [] p.files=filesE fmt (p.files.take k) (p.files.drop k))) (fun _ _ i _=>fl-(intOf i).toNat)
 case atStart=>exact⟨0,rfl,rfl,rfl,z0,P6,rfl⟩
 case round=>
  clear P6
  obtain⟨k,rfl,rfl,rfl,hk,PR,HE⟩:=hrel
  have c7:=C7.out wr PR.out
  by_cases hlt:k<fl
  ·have hlt':k<p.files.length:=by rw[HFL.out];exact hlt
   obtain⟨f,hf⟩:∃ f,p.files[k]?=some f:=⟨_,gG hlt'⟩
   obtain⟨fz1,fz2,fz3,fz4,fz5⟩:=HFF.out f (gM hf)
   obtain⟨b,off,hA,he⟩:=(RDF.out wr PR.out.b).elem file_len k f hf
   have e0:=he 0 _ rfl
   have e1:=he 1 _ rfl
   have e2:=he 2 _ rfl
   have e3:=he 3 _ rfl
   have e4:=he 4 _ rfl
   have e5:=he 5 _ rfl
   have e6:=he 6 _ rfl
   have e7:=he 7 _ rfl
   simp only[Nat.add_zero] at e0
   have hix:=fun W=>idx_of (T:=24) (E:=46) (sz:=8) (n:=fl) (c:=p.fc) Tryz.underlying24 rfl Tryz.sizeOf46 hA hlt W
   have HX:=hid hf
   clear hf he hA hlt'
   have X0:Hid (Bx wr (wr.alloc (.cells #[.string f.path,.int .i64 f.kind,.int .i64 f.mode,.string f.owner,.string f.group,.string f.link,.string f.sum,.bool f.conf] 46)) f.cells):=Bx.start wr f.cells _
   go_wp2_with fail
   clear e0 e1 e2 e3 e4 e5 e6 e7 hix
   refine(ref_Path f.path _ (by omega)).mono ?_;rintro e w1 ⟨rfl,hb1⟩
   have X1:Hid (Bx wr w1 f.cells):=X0.out.step hb1
   clear hb1 c7
   have c0:=X1.out.cell 0 _ rfl
   cases g1:pathB (bl f.path)
   ·skip
    have FE:fErr fmt (p.files.take k) f=10:=by unfold fErr;rw[g1];rfl
    have E:=hid (FB.out _ _ (filesE_bad HX.out HE.out (by rw[FE];decide)))
    rw[FE] at E
    clear FE g1
    go_wp2_with fail
    go_ret2
    exact⟨by rw[E.out];rfl,bthen PR.out.b X1.out.bel⟩
   have G1:=hid g1;clear g1
   have hPl:=fun W=>ref_Plain f.path W (by omega)
   cases g2:plainB (bl f.path)
   ·skip
    have FE:fErr fmt (p.files.take k) f=10:=by unfold fErr;rw[G1.out,g2];rfl
    have E:=hid (FB.out _ _ (filesE_bad HX.out HE.out (by rw[FE];decide)))
    rw[FE] at E
    rw[g2] at hPl
    clear FE g2
    go_wp2_with fail
    refine(hPl _).mono ?_;rintro e w' ⟨rfl,rfl⟩
    go_wp2_with fail
    go_ret2
    exact⟨by rw[E.out];rfl,bthen PR.out.b X1.out.bel⟩
   have G2:Hid ((pathB (bl f.path)&&plainB (bl f.path))=true):=by show _=_;rw[G1.out,g2];rfl
   rw[g2] at hPl
   clear g2
   go_wp2_with fail
   refine(hPl _).mono ?_;rintro e w' ⟨rfl,rfl⟩
   clear hPl
   have c7:=C7.out w1 (PR.out.below X1.out.bel)
   go_upto_region 27 with(fail)
   go_cut [112] (fun s35 wx=>∃ bb:Bool,s35=.bool bb∧Hid (bb=!orderB (p.files.take k).getLast? f)∧Hid (Bx wr wx f.cells))
   case first=>
    by_cases k0:k=0
    ·have k0':decide (0<(k:Int))=false:=dF (by omega)
     have k0n:decide (0<k)=false:=dF (by omega)
     have OB:Hid (false=!orderB (p.files.take k).getLast? f):=by show _=_;rw[k0];rfl
     clear k0
     go_quiet (fail)
     go_wp2_with fail
     go_meet
     exact⟨false,rfl,OB,X1.out.drewN _⟩
    ·have k0':decide (0<(k:Int))=true:=dT (by omega)
     have k0n:decide (0<k)=true:=dT (by omega)
     have kpos:0<k:=by omega
     obtain⟨y,hy⟩:∃ y,p.files[k-1]?=some y:=⟨_,gG (by rw[HFL.out];omega)⟩
     have hly:(p.files.take k).getLast?=some y:=by have:=take_last hy;rw[show k-1+1=k by omega] at this;exact this
     obtain⟨b2,off2,hA2,he2⟩:=(RDF.out w1 (bthen PR.out.b X1.out.bel)).elem file_len (k-1) y hy
     have p0:=he2 0 _ rfl
     simp only[Nat.add_zero] at p0
     have hixp:=fun W=>idx_int (T:=24) (E:=46) (sz:=8) (n:=fl) (c:=p.fc) (i:=(k:Int)-1) Tryz.underlying24 rfl Tryz.sizeOf46 (by omega) hA2 (show k-1<fl by omega) W
     have OB:Hid ((!Op.bytesLess y.path.toList f.path.toList)=!orderB (p.files.take k).getLast? f):=by
      show _=_;rw[hly];exact geq_bl y.path f.path
     have iw:IntKind.i64.wrap ((k:Int)-1)=(k:Int)-1:=IntWalk.i64_in _ (by omega)
     clear hy hly he2 hA2 k0
     go_quiet (fail)
     go_wp2_with fail
     go_meet
     exact⟨_,rfl,OB,X1.out.drewN _⟩
   case rest=>
   obtain⟨bb,rfl,HOB,X2⟩:=hcut
   clear c0 c7
   have c0:=X2.out.cell 0 _ rfl
   cases bb
   case true=>
    have HO:Hid (orderB (p.files.take k).getLast? f=false):=by have:=HOB.out;show _=_;revert this;cases orderB (p.files.take k).getLast? f<;>simp
    have FE:fErr fmt (p.files.take k) f=15:=by unfold fErr;rw[G2.out,HO.out];rfl
    have E:=hid (FB.out _ _ (filesE_bad HX.out HE.out (by rw[FE];decide)))
    rw[FE] at E
    clear FE
    go_wp2_with fail
    go_ret2
    exact⟨by rw[E.out];rfl,bthen PR.out.b X2.out.bel⟩
   have HO:Hid (orderB (p.files.take k).getLast? f=true):=by have:=HOB.out;show _=_;revert this;cases orderB (p.files.take k).getLast? f<;>simp
   have PX2:=hid (PR.out.below X2.out.bel)
   have c1:=X2.out.cell 1 _ rfl
   have c2:=X2.out.cell 2 _ rfl
   have c3:=X2.out.cell 3 _ rfl
   have c4:=X2.out.cell 4 _ rfl
   have c5:=X2.out.cell 5 _ rfl
   have c6:=X2.out.cell 6 _ rfl
   have c7:=X2.out.cell 7 _ rfl
   by_cases hkd:¬ (f.kind=1∨f.kind=2∨f.kind=3)
   ·have FE:fErr fmt (p.files.take k) f=9:=by unfold fErr;rw[G2.out,HO.out,if_neg (by simp),if_neg (by simp),if_pos hkd]
    have E:=hid (FB.out _ _ (filesE_bad HX.out HE.out (by rw[FE];decide)))
    rw[FE] at E
    have hF:=fun W=>ref_file9 fmt f W (by omega)
    unfold FileM.val at hF
    clear FE hkd
    go_wp2_with fail
    refine(hF _).mono ?_;rintro e w3 ⟨rfl,hb3⟩
    have X3:Hid (Bx wr w3 f.cells):=X2.out.step hb3
    have c0':=X3.out.cell 0 _ rfl
    clear hb3
    go_wp2_with fail
    go_ret2
    exact⟨by rw[E.out];rfl,bthen PR.out.b X3.out.bel⟩
   replace hkd:=Decidable.not_not.1 hkd
   have QQ:Hid (¬ ¬ (f.kind=1∨f.kind=2∨f.kind=3)):=fun h=>h hkd
   have hF:=fun W=>ref_file1 fmt HFM.out f W (by omega) (by omega) (by omega) (by omega) (by omega) (by omega)
   unfold FileM.val at hF
   clear hkd
   cases hrb:restB fmt f with
   | false=>
    have FE:fErr fmt (p.files.take k) f=1:=by unfold fErr;rw[G2.out,HO.out,if_neg (by simp),if_neg (by simp),if_neg QQ.out,if_pos hrb]
    have E:=hid (FB.out _ _ (filesE_bad HX.out HE.out (by rw[FE];decide)))
    rw[FE] at E
    rw[show restE fmt f=1 by unfold restE;rw[hrb];rfl] at hF
    clear FE hrb
    go_wp2_with fail
    refine(hF _).mono ?_;rintro e w3 ⟨rfl,hb3⟩
    have X3:Hid (Bx wr w3 f.cells):=X2.out.step hb3
    have c0':=X3.out.cell 0 _ rfl
    clear hb3
    go_wp2_with fail
    go_ret2
    exact⟨by rw[E.out];rfl,bthen PR.out.b X3.out.bel⟩
   | true=>
   have HRB:=hid hrb
   rw[show restE fmt f=0 by unfold restE;rw[hrb];rfl] at hF
   clear hrb
   go_wp2_with fail
   refine(hF _).mono ?_;rintro e w3 ⟨rfl,hb3⟩
   have X3:Hid (Bx wr w3 f.cells):=X2.out.step hb3
   clear hb3 hF c0 c1 c2 c3 c4 c5 c6 c7
   have c0:=X3.out.cell 0 _ rfl
   go_wp2_with fail
   refine(ref_Parent f.path _ (by omega)).mono ?_;rintro e w4 ⟨rfl,hb4⟩
   have X4:Hid (Bx wr w4 f.cells):=X3.out.step hb4
   have P4:=hid (PR.out.below X4.out.bel)
   clear hb4 c0
   unfold parV
   have c0:=X4.out.cell 0 _ rfl
   have c7:=C7.out w4 P4.out
   have HR4:=hid (RDF.out w4 P4.out.b)
   obtain⟨hb,hhb⟩:∃ hb,parB f.path=hb:=⟨_,rfl⟩
   obtain⟨up,hup⟩:∃ up,parS f.path=up:=⟨_,rfl⟩
   have HHB:=hid hhb;have HUP:=hid hup
   rw[hhb,hup]
   clear hhb hup X2 X3
   go_wp2_with fail
   go_loop [4,5,14] (fun s4 s5 j=>∃ q:Nat,s4=.string ⟨#[]⟩∧s5=.int .i64 0∧j=.int .i64 q∧q≤k∧Hid ((p.files.take q).any (fun g=>decide (g.path=up)&&decide (g.kind≠2))=false∨hb=false)) (fun _ _ j=>k-(intOf j).toNat)
   case atStart=>exact⟨0,rfl,rfl,rfl,z0,.inl rfl⟩
   case round=>
    obtain⟨q,rfl,rfl,rfl,hq,HQ⟩:=hrel
    have NXT:Hid (∀ h:((p.files.take k).any (fun g=>decide (g.path=up)&&decide (g.kind≠2))=false∨hb=false),filesE fmt [] p.files=filesE fmt (p.files.take (k+1)) (p.files.drop (k+1))):=fun h=>by
     refine filesE_next HX.out HE.out ?_
     have hpb:parBad (p.files.take k) f=false:=by
      unfold parBad;rw[HHB.out,HUP.out]
      rcases h with h | h
      ·rw[h];simp
      ·rw[h];rfl
     unfold fErr;rw[G2.out,HO.out,if_neg (by simp),if_neg (by simp),if_neg QQ.out,HRB.out,if_neg (by simp),hpb];rfl
    by_cases hqk:q<k
    ·have dq:decide ((q:Int)<(k:Int))=true:=dT (by omega)
     have dq':decide (q<k)=true:=dT hqk
     cases hb with
     | false=>
      have HN2:=hid (NXT.out (.inr rfl))
      clear dq dq'
      go_wp2_with fail
      go_roundw
      case rel=>exact⟨k+1,rfl,rfl,by go_num,by omega,P4,HN2⟩
      case measure=>simp[intOf];omega
     | true=>
      have hqf:q<fl:=by omega
      obtain⟨y,hy⟩:∃ y,p.files[q]?=some y:=⟨_,gG (by rw[HFL.out];omega)⟩
      obtain⟨b2,off2,hA2,he2⟩:=HR4.out.elem file_len q y hy
      have p0:=he2 0 _ rfl
      have p1:=he2 1 _ rfl
      simp only[Nat.add_zero] at p0
      have hixp:=fun W=>idx_of (T:=24) (E:=46) (sz:=8) (n:=fl) (c:=p.fc) Tryz.underlying24 rfl Tryz.sizeOf46 hA2 hqf W
      have STEP:Hid ((decide (y.path=up)&&decide (y.kind≠2))=false→(p.files.take (q+1)).any (fun g=>decide (g.path=up)&&decide (g.kind≠2))=false):=fun h=>by
       obtain⟨hk',hf'⟩:=gS hy
       rw[tS hk',hf',List.any_append]
       rcases HQ.out with h0 | h0
       ·rw[h0,Bool.false_or,List.any_cons,List.any_nil,Bool.or_false];exact h
       ·cases h0
      have STOP:Hid ((decide (y.path=up)&&decide (y.kind≠2))=true→parBad (p.files.take k) f=true):=fun h=>by
       unfold parBad;rw[HHB.out,HUP.out,Bool.true_and,List.any_eq_true]
       exact⟨y,gM (by rw[List.getElem?_take,if_pos hqk];exact hy),h⟩
      clear hy he2 hA2
      by_cases hyp:y.path=up
      ·have e1:(y.path.toList==up.toList)=true:=by rw[beq_bl];exact dT hyp
       by_cases hy2:y.kind=2
       ·have e2:(y.kind != 2)=false:=by simp[hy2]
        have HN2:=hid (STEP.out (by simp[hy2]))
        clear hyp hy2
        go_wp2_with fail
        go_round
        case rel=>exact⟨q+1,rfl,rfl,by go_num,by omega,.inl HN2.out⟩
        case measure=>simp[intOf];omega
       ·have e2:(y.kind != 2)=true:=by simp[hy2]
        have FE:fErr fmt (p.files.take k) f=9:=by
         unfold fErr;rw[G2.out,HO.out,if_neg (by simp),if_neg (by simp),if_neg QQ.out,HRB.out,if_neg (by simp),STOP.out (by simp[hyp,hy2])];rfl
        have E:=hid (FB.out _ _ (filesE_bad HX.out HE.out (by rw[FE];decide)))
        rw[FE] at E
        clear FE hyp hy2
        go_wp2_with fail
        go_ret2
        exact⟨by rw[E.out];rfl,P4.out.b⟩
      ·have e1:(y.path.toList==up.toList)=false:=by rw[beq_bl];exact dF hyp
       have HN2:=hid (STEP.out (by simp[hyp]))
       clear hyp
       go_wp2_with fail
       go_round
       case rel=>exact⟨q+1,rfl,rfl,by go_num,by omega,.inl HN2.out⟩
       case measure=>simp[intOf];omega
    ·have dq:decide ((q:Int)<(k:Int))=false:=dF (by omega)
     have dq':decide (q<k)=false:=dF hqk
     have hqe:q=k:=by omega
     have HN2:=hid (NXT.out (by rw[←hqe];exact HQ.out))
     clear hqe
     go_wp2_with fail
     go_roundw
     case rel=>exact⟨k+1,rfl,rfl,by go_num,by omega,P4,HN2⟩
     case measure=>simp[intOf];omega
  ·have hS:=ref_scripts fmt HFM.out p.sa p.sc p.scripts wr (HP.out.scripts.below PR.out.b) (by omega) HSF.out
   have E:=hid (FG.out (filesE_end (by rw[HFL.out];omega) HE.out))
   have c8:=PR.out.k.cell 8 _ rfl
   go_wp2_with fail
   refine hS.mono ?_;rintro e w2 ⟨rfl,hb2⟩
   have P2:=hid (PR.out.below hb2)
   clear hb2
   go_wp2_with fail
   go_ret2
   exact⟨by rw[E.out];rfl,P2.out.b⟩
theorem cp_of_pk (nm:BA)(fo no:Bool)(ev:Int)(ao so ndo bo go:Bool)(fe:BA×Int)(se:Int):
  cpAns nm fo no ev ao so ndo bo go fe.1 fe.2 se=if (pkW fo no ev ao so ndo bo go fe se).2=0 then refV ⟨#[]⟩ ⟨#[]⟩ 0 else refV nm (pkW fo no ev ao so ndo bo go fe se).1 (pkW fo no ev ao so ndo bo go fe se).2:=by
 unfold cpAns pkW
 by_cases hv:ev=0
 ·subst hv
  cases fo
  ·rfl
  cases no
  ·rfl
  cases ao
  ·rfl
  cases so
  ·rfl
  cases ndo
  ·rfl
  cases bo
  ·rfl
  cases go
  ·rfl
  by_cases hf:fe.2=0
  ·by_cases hs:se=0
   ·simp[hf,hs]
   ·simp[hf,hs]
  ·simp[hf]
 ·cases fo
  ·rfl
  cases no
  ·rfl
  simp[hv]
def ckV (nm:BA)(r:BA×Int):Value:=if r.2=0 then refV ⟨#[]⟩ ⟨#[]⟩ 0 else refV nm r.1 r.2
theorem ckV_zero (nm what:BA):ckV nm (what,0)=.agg #[.string ⟨#[]⟩,.string ⟨#[]⟩,.int .i64 0]:=rfl
theorem ckV_else (nm what:BA){c:Int}(h:c≠0):ckV nm (what,c)=.agg #[.string nm,.string what,.int .i64 c]:=by unfold ckV;rw[if_neg h];rfl
theorem r19_CheckPackage (fmt:Int)(p:PkL)(w:World)(r:BA×Int)
  (hP:∀ W,Below w.heap.size w W→Calls Tryz.prog 39 #[.int .i64 fmt,p.val] W fun e w'=>e=.returned (pkV r)∧Below W.heap.size W w'):
  Calls Tryz.prog 11 #[.int .i64 fmt,p.val] w fun e w'=>e=.returned (ckV p.nm r)∧Below w.heap.size w w':=by
 have HP:=hid hP;clear hP
 unfold PkL.val at *
 have B0:Hid (Below w.heap.size w ((w.alloc (.cells #[.string p.nm,.string p.ver,.string p.ar,.string p.sm,.slice p.na p.needs.length p.nc,.slice p.ba p.bars.length p.bc,.slice p.ga p.gives.length p.gc,.slice p.fa p.files.length p.fc,.slice p.sa p.scripts.length p.sc] 27)).alloc (.cells #[.string ⟨#[]⟩,.string ⟨#[]⟩,.int .i64 0] 32))):=(bR.alloc lr _).alloc (by simp) _
 have KA:Hid (Blk ((w.alloc (.cells #[.string p.nm,.string p.ver,.string p.ar,.string p.sm,.slice p.na p.needs.length p.nc,.slice p.ba p.bars.length p.bc,.slice p.ga p.gives.length p.gc,.slice p.fa p.files.length p.fc,.slice p.sa p.scripts.length p.sc] 27)).alloc (.cells #[.string ⟨#[]⟩,.string ⟨#[]⟩,.int .i64 0] 32)) w.heap.size p.cells):=(Blk.new w p.cells _).alloc _
 have KB:Hid (Blk ((w.alloc (.cells #[.string p.nm,.string p.ver,.string p.ar,.string p.sm,.slice p.na p.needs.length p.nc,.slice p.ba p.bars.length p.bc,.slice p.ga p.gives.length p.gc,.slice p.fa p.files.length p.fc,.slice p.sa p.scripts.length p.sc] 27)).alloc (.cells #[.string ⟨#[]⟩,.string ⟨#[]⟩,.int .i64 0] 32)) (w.heap.size+1) [.string ⟨#[]⟩,.string ⟨#[]⟩,.int .i64 0]):=by
  have:=Blk.new (w.alloc (.cells #[.string p.nm,.string p.ver,.string p.ar,.string p.sm,.slice p.na p.needs.length p.nc,.slice p.ba p.bars.length p.bc,.slice p.ga p.gives.length p.gc,.slice p.fa p.files.length p.fc,.slice p.sa p.scripts.length p.sc] 27)) [.string ⟨#[]⟩,.string ⟨#[]⟩,.int .i64 0] 32
  show Blk _ _ _;simpa using this
 go_enter Tryz.func11,Tryz.ntmps11
 go_wp2_with fail
 refine(HP.out _ B0.out).mono ?_;rintro e w1 ⟨rfl,hb1⟩
 have B1:=hid (bthen B0.out hb1)
 have c0:=(KA.out.below hb1).cell 0 _ rfl
 have r0:=(KB.out.below hb1).cell 0 _ rfl
 have r1:=(KB.out.below hb1).cell 1 _ rfl
 have r2:=(KB.out.below hb1).cell 2 _ rfl
 have fr0:=(KB.out.below hb1).free 0 (by simp)
 have fr1:=(KB.out.below hb1).free 1 (by simp)
 have fr2:=(KB.out.below hb1).free 2 (by simp)
 clear hb1 B0 KA KB
 obtain⟨what,code⟩:=r
 unfold pkV
 by_cases hc:code=0
 ·subst hc
  go_wp2_with fail
  refine bodyPost_ret (v:=.agg #[.string ⟨#[]⟩,.string ⟨#[]⟩,.int .i64 0]) (by simp[results,Tryz.results11,go_sem,r0,r1,r2]) rfl ?_
  exact⟨by rw[ckV_zero],below_set (below_set (below_set B1.out (by omega) _) (by omega) _) (by omega) _⟩
 ·have hc1:(code==0)=false:=by simp[hc]
  have HC:=HidN.mk hc
  clear hc
  go_wp2_with fail
  refine bodyPost_ret (v:=.agg #[.string p.nm,.string what,.int .i64 code]) (by simp[results,Tryz.results11,go_sem,r0,r1,r2]) rfl ?_
  exact⟨by rw[ckV_else _ _ HC.out],below_set (below_set (below_set B1.out (by omega) _) (by omega) _) (by omega) _⟩
theorem run_more {p:UInt8→Bool}(s:BA)(k m:Nat)(h:k+m<s.size)(h0:m≤runN p ((bl s).drop k))(h1:p (s[k+m]'h)=true):m+1≤runN p ((bl s).drop k):=by
 rcases Nat.lt_or_ge m (runN p ((bl s).drop k)) with h2 | h2
 ·exact h2
 ·have he:runN p ((bl s).drop k)=m:=by omega
  have hl:runN p ((bl s).drop k)<((bl s).drop k).length:=by rw[he,List.length_drop,bl_length];omega
  obtain⟨x,r,hd,hx⟩:=runN_head _ hl
  rw[he,List.drop_drop,drop_cons s (k+m) h] at hd
  injection hd with hd _
  rw[hd,hx] at h1;cases h1
theorem run_stop {p:UInt8→Bool}(s:BA)(k m:Nat)(h0:m≤runN p ((bl s).drop k))(h1:∀ h:k+m<s.size,p (s[k+m]'h)=false):runN p ((bl s).drop k)=m:=by
 rcases Nat.lt_or_ge m (runN p ((bl s).drop k)) with h2 | h2
 ·exfalso
  have hl:=runN_le p ((bl s).drop k)
  rw[List.length_drop,bl_length] at hl
  have hlt:k+m<s.size:=by omega
  have ht:((bl s).drop k).take (runN p ((bl s).drop k))=((bl s).drop k).takeWhile p:=take_runN p _
  have hg:(((bl s).drop k).takeWhile p)[m]?=some (s[k+m]'hlt):=by
   rw[←ht,List.getElem?_take_of_lt h2,List.getElem?_drop,bl_get? s (k+m) hlt]
  have:=List.all_eq_true.1 (List.all_takeWhile (p:=p) (l:=(bl s).drop k)) _ (gM hg)
  rw[h1 hlt] at this;cases this
 ·omega
theorem run_more' {p:UInt8→Bool}(s:BA)(k j:Nat)(hkj:k≤j)(h:j<s.size)(h0:j-k≤runN p ((bl s).drop k))(h1:p s[j]=true):j+1-k≤runN p ((bl s).drop k):=by
 obtain⟨m,rfl⟩:∃ m,j=k+m:=⟨j-k,by omega⟩
 have:=run_more s k m h (by omega) h1;omega
theorem run_stop' {p:UInt8→Bool}(s:BA)(k j:Nat)(hkj:k≤j)(h0:j-k≤runN p ((bl s).drop k))(h1:∀ h:j<s.size,p (s[j]'h)=false):runN p ((bl s).drop k)=j-k:=by
 obtain⟨m,rfl⟩:∃ m,j=k+m:=⟨j-k,by omega⟩
 have:=run_stop s k m (by omega) h1;omega
theorem aname_pos {l:LU}(h:anameB l=true):0<l.length:=by
 rw[anameB_eq] at h;simp at h;omega
theorem WRow.far {w wx:World}{L:List Wnt}{A:Option Addr}{n c b j:Nat}{v:Value}(h:WRow w wx L A n c)(hb:∀ g,(Value.slice A n c).ownBlock=some g→g≠b)(hb2:b≠w.heap.size)(hb3:w.heap.size≤b):WRow w (wx.setCell ⟨b,j,none⟩ v) L A n c:=by
 have hg:wx.grownBy (wx.setCell ⟨b,j,none⟩ v) (some b):=only_setCell (World.grownBy.refl wx (some b)) (.inl rfl) _
 refine⟨h.len,h.row.kept hg ?_,h.ret.far hb2 _,below_set h.bel hb3 _⟩
 cases hq:(Value.slice A n c).ownBlock with
 | none=>exact .inl rfl
 | some q=>right;intro he;injection he with he;exact hb q hq he
theorem WRow.grow1 {w wr w2:World}{L:List Wnt}{A A1:Option Addr}{n c c1:Nat}{o:Obj}{x:Wnt}(h:WRow w wr L A n c)
  (hr:w2.ownsRow (w.heap.size+1) 172 4 (.slice A1 (n+1) c1) (n+1) (L.flatMap Wnt.cells++x.cells))
  (hg:(wr.alloc o).grownBy w2 (Value.slice A n c).ownBlock):WRow w w2 (L++[x]) A1 (n+1) c1:=by
 have hb:=h.bel.size
 have hB:Below w.heap.size w (wr.alloc o):=h.bel.alloc h.bel.size o
 have hR:Blk (wr.alloc o) w.heap.size [.string ⟨#[]⟩,.int .i64 0,.int .i64 0]:=h.ret.alloc o
 refine⟨by simp[h.len],by rw[List.flatMap_append];simpa using hr,?_,?_⟩
 ·have hk:w2.heap[w.heap.size]?=(wr.alloc o).heap[w.heap.size]?:=hg.block _ hR.sz (by intro e;have:=(h.row.lt _ e.symm).1;omega)
  refine⟨Nat.lt_of_lt_of_le hR.sz hg.size,fun j u hu=>?_,fun j hj=>?_⟩
  ·exact(World.cell?_of_block (a:=⟨w.heap.size,j,none⟩) hk).trans (hR.cell j u hu)
  ·exact(World.frozen?_of_block (a:=⟨w.heap.size,j,none⟩) hk).trans (hR.free j hj)
 ·exact hB.grown hg hB.size (fun j hj=>by have:=(h.row.lt j hj).1;omega)
def BaseOp (c:UInt8)(o:Nat):Prop:=o=if c==60 then 1 else if c==61 then 3 else if c==62 then 5 else 6
theorem rel_four (c:UInt8)(h:relC c=true):c=60∨c=61∨c=62∨c=126:=by
 simp only[relC,Bool.or_eq_true,beq_iff_eq] at h
 rcases h with((h | h) | h) | h
 ·exact .inl h
 ·exact .inr (.inl h)
 ·exact .inr (.inr (.inl h))
 ·exact .inr (.inr (.inr h))
theorem aOp_at (s:BA)(k:Nat)(h:k<s.size):
  (s[k]=60→aOp ((bl s).drop k)=if head0 61 ((bl s).drop (k+1)) then (2,((bl s).drop (k+1)).drop 1) else (1,(bl s).drop (k+1))) ∧
  (s[k]=61→aOp ((bl s).drop k)=(3,(bl s).drop (k+1))) ∧
  (s[k]=62→aOp ((bl s).drop k)=if head0 61 ((bl s).drop (k+1)) then (4,((bl s).drop (k+1)).drop 1) else (5,(bl s).drop (k+1))) ∧
  (s[k]=126→aOp ((bl s).drop k)=(6,(bl s).drop (k+1))):=by
 rw[drop_cons s k h]
 refine⟨fun e=>?_,fun e=>?_,fun e=>?_,fun e=>?_⟩<;>(rw[e];simp only[aOp];rfl)
theorem aOp_final (s:BA)(k o:Nat)(h:k<s.size)(hr:relC s[k]=true)(hb:BaseOp s[k] o):
  aOp ((bl s).drop k)=if head0 61 ((bl s).drop (k+1))&&decide (o=1) then (2,(bl s).drop (k+2)) else if head0 61 ((bl s).drop (k+1))&&decide (o=5) then (4,(bl s).drop (k+2)) else (o,(bl s).drop (k+1)):=by
 obtain⟨h1,h2,h3,h4⟩:=aOp_at s k h
 have hdd:((bl s).drop (k+1)).drop 1=(bl s).drop (k+2):=by rw[List.drop_drop]
 unfold BaseOp at hb
 rcases rel_four s[k] hr with e | e | e | e
 ·rw[h1 e,hdd];rw[e] at hb;simp at hb;subst hb;cases head0 61 ((bl s).drop (k+1))<;>simp
 ·rw[h2 e];rw[e] at hb;simp at hb;subst hb;cases head0 61 ((bl s).drop (k+1))<;>simp
 ·rw[h3 e,hdd];rw[e] at hb;simp at hb;subst hb;cases head0 61 ((bl s).drop (k+1))<;>simp
 ·rw[h4 e];rw[e] at hb;simp at hb;subst hb;cases head0 61 ((bl s).drop (k+1))<;>simp
theorem nameC_eq (c:UInt8):nameC c=(c != 32&&c != 60&&c != 61&&c != 62&&c != 126):=by
 have:=of_bytes (fun c=>nameC c==(c != 32&&c != 60&&c != 61&&c != 62&&c != 126)) (by kernel_rfl) c
 simpa using this
theorem neI (c:UInt8)(n:UInt8):((c.toNat:Int) != (n.toNat:Int))=(c != n):=by
 rw[bI];simp[←UInt8.toNat_inj];omega
theorem r16_Parse (s:BA)(w:World)(hs:s.size≤4294967280):
  Calls Tryz.prog 152 #[.string s] w (AParsePost (aParse (bl s)) w):=by
 obtain⟨i0,hi0,hz0,hz1,hz2⟩:=info_parts info_want
 go_enter Tryz.func152,Tryz.ntmps152
 go_wp2_with fail
 go_loopw [4,5] (fun l p wr=>∃ (L:List Wnt) (A:Option Addr) (n c k f:Nat),l=.slice A n c∧p=.int .i64 k∧k≤s.size∧n≤64∧Hid (WRow w wr L A n c)∧Hid (aParse (bl s)=aTop (f+1) L ((bl s).drop k))∧Hid (s.size-k≤f)) (fun _ p wr=>s.size-(intOf p).toNat)
 case atStart=>exact⟨[],none,0,0,0,s.size,rfl,rfl,z0,by omega,WRow.start w,by show _=_;rw[List.drop_zero,←bl_length];exact aTop_start _,lr⟩
 case round=>
  obtain⟨L,A,n,c,k0,f,rfl,rfl,hk0,hn,HR,HN0,HF0⟩:=hrel
  go_upto_block 2 with(fail)
  go_cut [5] (fun p wx=>∃ k:Nat,p=.int .i64 k∧k0≤k∧k≤s.size∧wr=wx∧Hid (aParse (bl s)=aTop (f+1) L ((bl s).drop k))∧Hid (s.size-k≤f)∧Hid (k<s.size→ink0 ((bl s).drop k)=true))
  case first=>
   as_aux_lemma=>
    go_wp2_with fail
    go_loop [5] (fun p=>∃ k:Nat,p=.int .i64 k∧k0≤k∧k≤s.size∧Hid (aParse (bl s)=aTop (f+1) L ((bl s).drop k))∧Hid (s.size-k≤f)) (fun p=>s.size-(intOf p).toNat)
    case atStart=>exact⟨k0,rfl,lr,hk0,HN0,HF0⟩
    case round=>
     obtain⟨k,rfl,hkk,hk,HN,HF⟩:=hrel
     by_cases hlt:k<s.size
     ·have HD:=hid (drop_cons s k hlt)
      obtain⟨d,hd⟩:∃ d:UInt8,s[k]=d:=⟨_,rfl⟩
      rw[hd] at HD
      by_cases hd32:d.toNat=32
      ·have HN2:Hid (aParse (bl s)=aTop (f+1) L ((bl s).drop (k+1))):=by show _=_;rw[HN.out,HD.out,show d=32 from UInt8.toNat_inj.1 hd32,aTop_blank]
       have HF2:Hid (s.size-(k+1)≤f):=by have:=HF.out;show _≤_;omega
       go_wp2_with fail
       go_round
       case rel=>exact⟨k+1,by go_num,by omega,by omega,HN2,HF2⟩
       case measure=>simp[intOf];omega
      ·have HI:Hid (k<s.size→ink0 ((bl s).drop k)=true):=by
        intro _;rw[HD.out];simp only[ink0,inkB];simp;intro e;exact hd32 (by rw[e];rfl)
       go_wp2_with fail
       go_meet
       exact⟨k,rfl,hkk,hk,rfl,HN,HF,HI⟩
     ·have HI:Hid (k<s.size→ink0 ((bl s).drop k)=true):=fun h=>absurd h hlt
      go_wp2_with fail
      go_meet
      exact⟨k,rfl,hkk,hk,rfl,HN,HF,HI⟩
  case rest=>
  obtain⟨k,rfl,hkk,hk,rfl,HN,HF,HI⟩:=hcut
  clear HN0 HF0
  by_cases hlt:k<s.size
  case neg=>
   have E:Hid (aParse (bl s)=some L):=by show _=_;rw[HN.out,drop_end s k hlt,aTop_end]
   have hke:((k:Int)==(s.size:Int))=true:=by simp;omega
   have r0:=HR.out.ret.cell 0 _ rfl
   have r1:=HR.out.ret.cell 1 _ rfl
   have r2:=HR.out.ret.cell 2 _ rfl
   have fr0:=HR.out.ret.free 0 (by simp)
   have fr1:=HR.out.ret.free 1 (by simp)
   have fr2:=HR.out.ret.free 2 (by simp)
   go_wp2_with fail
   refine bodyPost_ret (v:=.tuple #[.slice A n c,.agg #[.string ⟨#[]⟩,.int .i64 0,.int .i64 0]]) (by simp[results,Tryz.results152,go_sem,r0,r1,r2]) rfl ?_
   refine⟨A,n,c,⟨#[]⟩,0,0,rfl,?_,?_⟩
   ·exact below_set (below_set (below_set HR.out.bel lr _) lr _) lr _
   ·rw[E.out]
    exact⟨rfl,HR.out.len.symm,owns_base (owns_set (owns_set (owns_set HR.out.row (Nat.lt_succ_self _)) (Nat.lt_succ_self _)) (Nat.lt_succ_self _)) (Nat.le_succ _)⟩
  have hke:((k:Int)==(s.size:Int))=false:=by simp;omega
  have HK:Hid (inkB (((bl s).drop k).headD 32)=true):=by
   have:=HI.out hlt;rw[drop_cons s k hlt] at this ⊢;exact this
  by_cases h64:n=64
  case pos=>
   have E:Hid (aParse (bl s)=none):=by show _=_;rw[HN.out];exact aTop_large HK.out (by rw[HR.out.len];exact h64)
   have h64':((n:Int)==64)=true:=by simp;omega
   have r0:=HR.out.ret.cell 0 _ rfl
   have r1:=HR.out.ret.cell 1 _ rfl
   have r2:=HR.out.ret.cell 2 _ rfl
   have fr0:=HR.out.ret.free 0 (by simp)
   have fr1:=HR.out.ret.free 1 (by simp)
   have fr2:=HR.out.ret.free 2 (by simp)
   go_wp2_with fail
   refine bodyPost_ret (v:=.tuple #[.slice none 0 0,.agg #[.string ⟨#[]⟩,.int .i64 k,.int .i64 4]]) (by simp[results,Tryz.results152,go_sem,r0,r1,r2]) rfl ?_
   refine⟨none,0,0,⟨#[]⟩,k,4,rfl,?_,by rw[E.out];exact⟨by decide,rfl,rfl⟩⟩
   exact below_set (below_set (below_set HR.out.bel lr _) lr _) lr _
  have h64':((n:Int)==64)=false:=by simp;omega
  obtain⟨q,hq⟩:∃ q,head0 33 ((bl s).drop k)=q:=⟨_,rfl⟩
  obtain⟨k1,hk1,hk1s,hk1k,hbare⟩:∃ k1,(k1=if q then k+1 else k)∧k1≤s.size∧k≤k1∧aBare ((bl s).drop k)=(bl s).drop k1:=by
   refine⟨_,rfl,?_,?_,?_⟩
   ·split<;>omega
   ·split<;>omega
   ·unfold aBare;rw[hq];cases q<;>simp
  have HQ:=hid hq
  have HBR:=hid hbare
  have t33:((s[k].toNat:Int)==33)=q:=by
   rw[←HQ.out,drop_cons s k hlt];simp only[head0];rw[bI];simp[←UInt8.toNat_inj];omega
  have HK1:=hid hk1
  have S0:=hid (HR.out.below (bR.alloc lr (.cells #[.bool q,.string ⟨#[]⟩,.int .i64 0,.string ⟨#[]⟩] 172)))
  have K0:Hid (Blk (wr.alloc (.cells #[.bool q,.string ⟨#[]⟩,.int .i64 0,.string ⟨#[]⟩] 172)) wr.heap.size [.bool q,.string ⟨#[]⟩,.int .i64 0,.string ⟨#[]⟩]):=Blk.new wr _ _
  clear hbare hq hk1
  go_upto_if 36 with(fail)
  go_cut [5] (fun p wx=>p=.int .i64 k1∧Hid (Blk wx wr.heap.size [.bool q,.string ⟨#[]⟩,.int .i64 0,.string ⟨#[]⟩])∧Hid (WRow w wx L A n c))
  case first=>
   as_aux_lemma=>
    cases q with
    | true=>
     have e1:k1=k+1:=by have:=HK1.out;simpa using this
     have hne:Hid (k1=k+1):=e1
     clear e1
     go_wp2_with fail
     go_meet
     exact⟨by rw[hne.out];rfl,K0,S0⟩
    | false=>
     have e1:k1=k:=by have:=HK1.out;simpa using this
     have hne:Hid (k1=k):=e1
     clear e1
     go_wp2_with fail
     go_meet
     exact⟨by rw[hne.out],K0,S0⟩
  case rest=>
  obtain⟨rfl,K1,S1⟩:=hcut
  clear S0 K0 t33 hke h64'
  go_upto_block 4 with(fail)
  go_cut [5,7] (fun p fr wx=>∃ j:Nat,p=.int .i64 j∧fr=.int .i64 k1∧k1≤j∧j≤s.size∧wc=wx∧Hid (runN nameC ((bl s).drop k1)=j-k1))
  case first=>
   as_aux_lemma=>
    go_wp2_with fail
    go_loop [5] (fun p=>∃ j:Nat,p=.int .i64 j∧k1≤j∧j≤s.size∧Hid (j-k1≤runN nameC ((bl s).drop k1))) (fun p=>s.size-(intOf p).toNat)
    case atStart=>exact⟨k1,rfl,lr,hk1s,by show _≤_;omega⟩
    case round=>
     obtain⟨j,rfl,hkj,hjs,HJ⟩:=hrel
     by_cases hjl:j<s.size
     ·have HM:=hid (run_more' s k1 j hkj hjl HJ.out)
      have HS:=hid (fun h=>run_stop' s k1 j hkj HJ.out h)
      have EQ:=nameC_eq s[j]
      have n1:=neI s[j] 32
      have n2:=neI s[j] 60
      have n3:=neI s[j] 61
      have n4:=neI s[j] 62
      have n5:=neI s[j] 126
      simp only[show(32:UInt8).toNat=32 from rfl,show(60:UInt8).toNat=60 from rfl,show(61:UInt8).toNat=61 from rfl,show(62:UInt8).toNat=62 from rfl,show(126:UInt8).toNat=126 from rfl,Int.cast_ofNat_Int] at n1 n2 n3 n4 n5
      generalize (s[j] != 32)=b1 at *
      generalize (s[j] != 60)=b2 at *
      generalize (s[j] != 61)=b3 at *
      generalize (s[j] != 62)=b4 at *
      generalize (s[j] != 126)=b5 at *
      cases hb:nameC s[j] with
      | true=>
       have H2:=hid (HM.out hb)
       rw[hb] at EQ
       obtain⟨rfl,rfl,rfl,rfl,rfl⟩:b1=true∧b2=true∧b3=true∧b4=true∧b5=true:=by revert EQ;cases b1<;>cases b2<;>cases b3<;>cases b4<;>cases b5<;>simp
       clear EQ hb
       go_wp2_with fail
       go_round
       case rel=>exact⟨j+1,by go_num,by omega,by omega,H2⟩
       case measure=>simp[intOf];omega
      | false=>
       have H2:=hid (HS.out (fun _=>hb))
       rw[hb] at EQ
       have EQH:=hid EQ
       clear hb HM HS EQ
       cases b1 with
       | false=>
        go_wp2_with fail
        go_meet
        exact⟨j,rfl,rfl,hkj,hjs,rfl,H2⟩
       | true=>
       cases b2 with
       | false=>
        go_wp2_with fail
        go_meet
        exact⟨j,rfl,rfl,hkj,hjs,rfl,H2⟩
       | true=>
       cases b3 with
       | false=>
        go_wp2_with fail
        go_meet
        exact⟨j,rfl,rfl,hkj,hjs,rfl,H2⟩
       | true=>
       cases b4 with
       | false=>
        go_wp2_with fail
        go_meet
        exact⟨j,rfl,rfl,hkj,hjs,rfl,H2⟩
       | true=>
       cases b5 with
       | false=>
        go_wp2_with fail
        go_meet
        exact⟨j,rfl,rfl,hkj,hjs,rfl,H2⟩
       | true=>exact absurd EQH.out (by simp)
     ·have H2:=hid (run_stop' s k1 j hkj HJ.out (fun h=>absurd h hjl))
      go_wp2_with fail
      go_meet
      exact⟨j,rfl,rfl,hkj,hjs,rfl,H2⟩
  case rest=>
  obtain⟨k2,rfl,rfl,hk12,hk2s,rfl,HRN⟩:=hcut
  obtain⟨N,hN⟩:∃ N,s.extract k1 k2=N:=⟨_,rfl⟩
  have HNB:Hid (bl N=(aBare ((bl s).drop k)).take (runN nameC (aBare ((bl s).drop k)))):=by
   show _=_;rw[HBR.out,HRN.out,←hN,bl_extract]
  have HDR:Hid ((aBare ((bl s).drop k)).drop (runN nameC (aBare ((bl s).drop k)))=(bl s).drop k2):=by
   show _=_;rw[HBR.out,HRN.out,List.drop_drop];congr 1;omega
  have hNz:N.size=k2-k1:=by rw[←hN,ByteArray.size_extract];omega
  have hcc1:(k1:Int)≤(k2:Int):=by omega
  have hcc2:(k2:Int)≤(s.size:Int):=by omega
  have hbw:w.heap.size<wr.heap.size:=HR.out.ret.sz
  have hown:Hid (∀ g,(Value.slice A n c).ownBlock=some g→g≠wr.heap.size):=fun g hg=>by have:=(HR.out.row.lt g hg).2;omega
  have c1:=K1.out.cell 1 _ rfl
  have f1:=K1.out.free 1 (by simp)
  go_wp2_with fail
  refine(r16_Name N _ (by omega)).mono ?_;rintro e w2 ⟨rfl,hw⟩
  have K2:Hid (Blk w2 wr.heap.size [.bool q,.string N,.int .i64 0,.string ⟨#[]⟩]):=by rw[←hw];exact K1.out.set 1 (by simp) _
  have S2:Hid (WRow w w2 L A n c):=by rw[←hw];exact S1.out.far hown.out (by omega) (by omega)
  clear hw c1 f1 hN
  cases hnm:anameB (bl N) with
  | false=>
   have E:Hid (aParse (bl s)=none):=by
    show _=_;rw[HN.out];exact aTop_none HK.out (scan_none _ (by rw[←HNB.out];exact hnm))
   have r0:=S2.out.ret.cell 0 _ rfl
   have r1:=S2.out.ret.cell 1 _ rfl
   have r2:=S2.out.ret.cell 2 _ rfl
   have fr0:=S2.out.ret.free 0 (by simp)
   have fr1:=S2.out.ret.free 1 (by simp)
   have fr2:=S2.out.ret.free 2 (by simp)
   clear hnm
   go_wp2_with fail
   refine bodyPost_ret (v:=.tuple #[.slice none 0 0,.agg #[.string ⟨#[]⟩,.int .i64 k1,.int .i64 10]]) (by simp[results,Tryz.results152,go_sem,r0,r1,r2]) rfl ?_
   refine⟨none,0,0,⟨#[]⟩,k1,10,rfl,?_,by rw[E.out];exact⟨by decide,rfl,rfl⟩⟩
   exact below_set (below_set (below_set S2.out.bel lr _) lr _) lr _
  | true=>
  have HNM:Hid (anameB ((aBare ((bl s).drop k)).take (runN nameC (aBare ((bl s).drop k))))=true):=by show _=_;rw[←HNB.out];exact hnm
  have hkk2:k<k2:=by have h1:=aname_pos hnm;rw[bl_length] at h1;omega
  clear hnm
  obtain⟨b,hb⟩:∃ b,ink0 ((bl s).drop k2)=b:=⟨_,rfl⟩
  have HIN:=hid hb;clear hb
  go_upto_region 19 with(fail)
  go_cut [99] (fun v wx=>v=.bool b∧w2=wx)
  case first=>
   as_aux_lemma=>
    by_cases hlt2:k2<s.size
    ·have n1:=neI s[k2] 32
     simp only[show(32:UInt8).toNat=32 from rfl,Int.cast_ofNat_Int] at n1
     have h1:(s[k2] != 32)=b:=by rw[←HIN.out,drop_cons s k2 hlt2];rfl
     rw[h1] at n1
     clear h1
     go_wp2_with fail
     go_meet
     exact⟨rfl,rfl⟩
    ·have hb0:Hid (b=false):=by show _=_;rw[←HIN.out,drop_end s k2 hlt2];rfl
     go_wp2_with fail
     go_meet
     exact⟨by rw[hb0.out],rfl⟩
  case rest=>
  obtain⟨rfl,rfl⟩:=hcut
  go_upto_if 99 with(fail)
  go_cut [5] (fun p wx=>∃ (k4:Nat) (x:Wnt),p=.int .i64 k4∧k<k4∧k4≤s.size∧Hid (Blk wx wr.heap.size x.cells)∧Hid (WRow w wx L A n c)∧Hid (aWant (((bl s).drop k).take (runN inkB ((bl s).drop k)))=some x)∧Hid (((bl s).drop k).drop (runN inkB ((bl s).drop k))=(bl s).drop k4))
  case first=>
   as_aux_lemma=>
    have BARE:Hid (ink0 ((bl s).drop k2)=false→∃ x:Wnt,[.bool q,.string N,.int .i64 0,.string ⟨#[]⟩]=x.cells∧aWant (((bl s).drop k).take (runN inkB ((bl s).drop k)))=some x∧((bl s).drop k).drop (runN inkB ((bl s).drop k))=(bl s).drop k2):=by
     intro h
     obtain⟨h1,h2⟩:=scan_name _ HNM.out (by rw[HDR.out];exact h)
     refine⟨_,?_,h1,by rw[h2,HDR.out]⟩
     rw[←HNB.out,HQ.out];simp only[Wnt.cells,mk_bl];rfl
    cases b with
    | false=>
     obtain⟨x,hx1,hx2,hx3⟩:=BARE.out HIN.out
     rw[hx1] at K2
     have X2:=hid hx2
     have X3:=hid hx3
     clear hx1 hx2 hx3
     go_wp2_with fail
     go_meet
     exact⟨k2,x,rfl,hkk2,hk2s,K2,S2,X2,X3⟩
    | true=>
     clear BARE
     have hlt2:k2<s.size:=by
      rcases Nat.lt_or_ge k2 s.size with h | h
      ·exact h
      ·have:=HIN.out;rw[drop_end s k2 (by omega)] at this;cases this
     have HREL:Hid (rel0 ((bl s).drop k2)=true):=by
      have:=name_stop (aBare ((bl s).drop k)) (by rw[HDR.out];exact HIN.out)
      rw[HDR.out] at this;exact this
     have SCAN:Hid (∀ (o:Nat)(k3:Nat),aOp ((bl s).drop k2)=(o,(bl s).drop k3)→aWant (((bl s).drop k).take (runN inkB ((bl s).drop k)))=(if verE 3 (mkB (((bl s).drop k3).take (runN inkB ((bl s).drop k3))))=0 then some ⟨q,bl N,o,((bl s).drop k3).take (runN inkB ((bl s).drop k3))⟩ else none)∧((bl s).drop k).drop (runN inkB ((bl s).drop k))=((bl s).drop k3).drop (runN inkB ((bl s).drop k3))):=by
      intro o k3 ho
      have:=scan_rel _ HNM.out (by rw[HDR.out];exact HIN.out) _ o (by rw[HDR.out];exact ho)
      rw[HQ.out,←HNB.out] at this;exact this
     have g2:=K2.out.cell 2 _ rfl
     have fg2:=K2.out.free 2 (by simp)
     have HRC:Hid (relC s[k2]=true):=by have:=HREL.out;rw[drop_cons s k2 hlt2] at this;exact this
     have OPS:=hid (aOp_at s k2 hlt2)
     go_upto_block 6 with(fail)
     go_cut [102] (fun v wx=>∃ o:Nat,v=.int .u8 s[k2].toNat∧Hid (BaseOp s[k2] o)∧Hid (Blk wx wr.heap.size [.bool q,.string N,.int .i64 o,.string ⟨#[]⟩])∧Hid (WRow w wx L A n c))
     case first=>
      as_aux_lemma=>
       rcases rel_four s[k2] HRC.out with hd | hd | hd | hd
       ·have BO:Hid (BaseOp s[k2] 1):=by show BaseOp _ _;rw[hd];rfl
        have x60:((s[k2].toNat:Int)==60)=true:=by rw[hd];rfl
        clear hd
        go_wp2_with fail
        go_meet
        exact⟨1,rfl,BO,K2.out.set 2 (by simp) _,S2.out.far hown.out (by omega) (by omega)⟩
       ·have BO:Hid (BaseOp s[k2] 3):=by show BaseOp _ _;rw[hd];rfl
        have x60:((s[k2].toNat:Int)==60)=false:=by rw[hd];rfl
        have x61:((s[k2].toNat:Int)==61)=true:=by rw[hd];rfl
        clear hd
        go_wp2_with fail
        go_meet
        exact⟨3,rfl,BO,K2.out.set 2 (by simp) _,S2.out.far hown.out (by omega) (by omega)⟩
       ·have BO:Hid (BaseOp s[k2] 5):=by show BaseOp _ _;rw[hd];rfl
        have x60:((s[k2].toNat:Int)==60)=false:=by rw[hd];rfl
        have x61:((s[k2].toNat:Int)==61)=false:=by rw[hd];rfl
        have x62:((s[k2].toNat:Int)==62)=true:=by rw[hd];rfl
        clear hd
        go_wp2_with fail
        go_meet
        exact⟨5,rfl,BO,K2.out.set 2 (by simp) _,S2.out.far hown.out (by omega) (by omega)⟩
       ·have BO:Hid (BaseOp s[k2] 6):=by show BaseOp _ _;rw[hd];rfl
        have x60:((s[k2].toNat:Int)==60)=false:=by rw[hd];rfl
        have x61:((s[k2].toNat:Int)==61)=false:=by rw[hd];rfl
        have x62:((s[k2].toNat:Int)==62)=false:=by rw[hd];rfl
        clear hd
        go_wp2_with fail
        go_meet
        exact⟨6,rfl,BO,K2.out.set 2 (by simp) _,S2.out.far hown.out (by omega) (by omega)⟩
     case rest=>
     obtain⟨o,rfl,HBO,K3,S3⟩:=hcut
     clear g2 fg2
     obtain⟨b3,hb3⟩:∃ b3,head0 61 ((bl s).drop (k2+1))=b3:=⟨_,rfl⟩
     obtain⟨c1,hc1⟩:∃ c1,decide (o=1)=c1:=⟨_,rfl⟩
     obtain⟨c5,hc5⟩:∃ c5,decide (o=5)=c5:=⟨_,rfl⟩
     have OPF:Hid (aOp ((bl s).drop k2)=if b3&&c1 then (2,(bl s).drop (k2+2)) else if b3&&c5 then (4,(bl s).drop (k2+2)) else (o,(bl s).drop (k2+1))):=by
      show _=_;rw[←hb3,←hc1,←hc5];exact aOp_final s k2 o hlt2 HRC.out HBO.out
     have H3:=hid hb3
     have o1:((o:Int)==1)=c1:=by rw[←hc1,bI];simp;omega
     have o5:((o:Int)==5)=c5:=by rw[←hc5,bI];simp;omega
     clear hb3 hc1 hc5
     have g2:=K3.out.cell 2 _ rfl
     have fg2:=K3.out.free 2 (by simp)
     obtain⟨kk,hkk3⟩:∃ kk,k2+1=kk:=⟨_,rfl⟩
     have HKK:=hid hkk3
     have hkk4:(k2:Int)+1=(kk:Int):=by omega
     have hkks:kk≤s.size:=by omega
     have hkk5:k2<kk:=by omega
     clear hkk3
     go_upto_region 29 with(fail)
     go_cut [5,134] (fun p v wx=>p=.int .i64 kk∧v=.bool (b3&&c1)∧wc=wx)
     case first=>
      as_aux_lemma=>
       by_cases h3:kk<s.size
       ·have t61:((s[kk].toNat:Int)==61)=b3:=by
         rw[←H3.out,HKK.out,drop_cons s kk h3];simp only[head0];rw[bI];simp[←UInt8.toNat_inj];omega
        cases b3 with
        | true=>
         go_wp2_with fail
         go_meet
         exact⟨rfl,by simp,rfl⟩
        | false=>
         go_wp2_with fail
         go_meet
         exact⟨rfl,by simp,rfl⟩
       ·have h0:Hid (b3=false):=by show _=_;rw[←H3.out,HKK.out,drop_end s kk h3];rfl
        go_wp2_with fail
        go_meet
        exact⟨rfl,by rw[h0.out];rfl,rfl⟩
     case rest=>
     obtain⟨rfl,rfl,rfl⟩:=hcut
     go_upto_if 134 with(fail)
     go_cut [5] (fun p wx=>∃ (k3 o':Nat),p=.int .i64 k3∧k2<k3∧k3≤s.size∧Hid (aOp ((bl s).drop k2)=(o',(bl s).drop k3))∧Hid (Blk wx wr.heap.size [.bool q,.string N,.int .i64 o',.string ⟨#[]⟩])∧Hid (WRow w wx L A n c))
     case first=>
      as_aux_lemma=>
       by_cases h3:kk<s.size
       ·have t61:((s[kk].toNat:Int)==61)=b3:=by
         rw[←H3.out,HKK.out,drop_cons s kk h3];simp only[head0];rw[bI];simp[←UInt8.toNat_inj];omega
        cases b3 with
        | true=>
         cases c1 with
         | true=>
          have F:Hid (aOp ((bl s).drop k2)=(2,(bl s).drop (kk+1))):=by show _=_;rw[OPF.out,←HKK.out];rfl
          go_wp2_with fail
          go_meet
          exact⟨kk+1,2,by first | rfl | (congr 1;omega),by omega,by omega,F,K3.out.set 2 (by simp) _,S3.out.far hown.out (by omega) (by omega)⟩
         | false=>
          cases c5 with
          | true=>
           have F:Hid (aOp ((bl s).drop k2)=(4,(bl s).drop (kk+1))):=by show _=_;rw[OPF.out,←HKK.out];rfl
           go_wp2_with fail
           go_meet
           exact⟨kk+1,4,by first | rfl | (congr 1;omega),by omega,by omega,F,K3.out.set 2 (by simp) _,S3.out.far hown.out (by omega) (by omega)⟩
          | false=>
           have F:Hid (aOp ((bl s).drop k2)=(o,(bl s).drop kk)):=by show _=_;rw[OPF.out,←HKK.out];rfl
           go_wp2_with fail
           go_meet
           exact⟨kk,o,rfl,hkk5,hkks,F,K3,S3⟩
        | false=>
         have F:Hid (aOp ((bl s).drop k2)=(o,(bl s).drop kk)):=by show _=_;rw[OPF.out,←HKK.out];rfl
         cases c1 with
         | true=>
          go_wp2_with fail
          go_meet
          exact⟨kk,o,rfl,hkk5,hkks,F,K3,S3⟩
         | false=>
          go_wp2_with fail
          go_meet
          exact⟨kk,o,rfl,hkk5,hkks,F,K3,S3⟩
       ·have h0:b3=false:=by rw[←H3.out,HKK.out,drop_end s kk h3];rfl
        subst h0
        have F:Hid (aOp ((bl s).drop k2)=(o,(bl s).drop kk)):=by show _=_;rw[OPF.out,←HKK.out];rfl
        cases c1 with
        | true=>
         go_wp2_with fail
         go_meet
         exact⟨kk,o,rfl,hkk5,hkks,F,K3,S3⟩
        | false=>
         go_wp2_with fail
         go_meet
         exact⟨kk,o,rfl,hkk5,hkks,F,K3,S3⟩
     case rest=>
     obtain⟨k3,o',rfl,hk23,hk3s,HOP,K4,S4⟩:=hcut
     clear g2 fg2 o1 o5 hkk4
     go_upto_block 7 with(fail)
     go_cut [5,7] (fun p fr wx=>∃ j:Nat,p=.int .i64 j∧fr=.int .i64 k3∧k3≤j∧j≤s.size∧wc=wx∧Hid (runN inkB ((bl s).drop k3)=j-k3))
     case first=>
      as_aux_lemma=>
       go_wp2_with fail
       go_loop [5] (fun p=>∃ j:Nat,p=.int .i64 j∧k3≤j∧j≤s.size∧Hid (j-k3≤runN inkB ((bl s).drop k3))) (fun p=>s.size-(intOf p).toNat)
       case atStart=>exact⟨k3,rfl,lr,hk3s,by show _≤_;omega⟩
       case round=>
        obtain⟨j,rfl,hkj,hjs,HJ⟩:=hrel
        by_cases hjl:j<s.size
        ·have HM:=hid (run_more' s k3 j hkj hjl HJ.out)
         have HS:=hid (fun h=>run_stop' s k3 j hkj HJ.out h)
         have n1:=neI s[j] 32
         simp only[show(32:UInt8).toNat=32 from rfl,Int.cast_ofNat_Int] at n1
         cases hb:inkB s[j] with
         | true=>
          have H2:=hid (HM.out hb)
          rw[show(s[j] != 32)=true from hb] at n1
          clear hb HM HS
          go_wp2_with fail
          go_round
          case rel=>exact⟨j+1,by go_num,by omega,by omega,H2⟩
          case measure=>simp[intOf];omega
         | false=>
          have H2:=hid (HS.out (fun _=>hb))
          rw[show(s[j] != 32)=false from hb] at n1
          clear hb HM HS
          go_wp2_with fail
          go_meet
          exact⟨j,rfl,rfl,hkj,hjs,rfl,H2⟩
        ·have H2:=hid (run_stop' s k3 j hkj HJ.out (fun h=>absurd h hjl))
         go_wp2_with fail
         go_meet
         exact⟨j,rfl,rfl,hkj,hjs,rfl,H2⟩
     case rest=>
     obtain⟨k5,rfl,rfl,hk35,hk5s,rfl,HRI⟩:=hcut
     obtain⟨V,hV⟩:∃ V,s.extract k3 k5=V:=⟨_,rfl⟩
     have HVB:Hid (bl V=((bl s).drop k3).take (runN inkB ((bl s).drop k3))):=by show _=_;rw[HRI.out,←hV,bl_extract]
     have HDV:Hid (((bl s).drop k3).drop (runN inkB ((bl s).drop k3))=(bl s).drop k5):=by show _=_;rw[HRI.out,List.drop_drop];congr 1;omega
     have hVz:V.size≤s.size:=by rw[←hV,ByteArray.size_extract];omega
     obtain⟨W1,W2⟩:=SCAN.out o' k3 HOP.out
     rw[←HVB.out,mk_bl] at W1
     rw[HDV.out] at W2
     have HW1:=hid W1
     have HW2:=hid W2
     clear W1 W2
     have hcc3:(k3:Int)≤(k5:Int):=by omega
     have hcc4:(k5:Int)≤(s.size:Int):=by omega
     have c3:=K4.out.cell 3 _ rfl
     have f3:=K4.out.free 3 (by simp)
     go_wp2_with fail
     refine(r12_Check 3 V _ (by omega)).mono ?_;rintro e w5 ⟨rfl,hb5⟩
     have K5:Hid (Blk w5 wr.heap.size [.bool q,.string N,.int .i64 o',.string V]):=(K4.out.set 3 (by simp) (.string V)).below hb5
     have S5:Hid (WRow w w5 L A n c):=(S4.out.far hown.out (by omega) (by omega)).below hb5
     clear hb5 c3 f3 hV
     by_cases hv:verE 3 V=0
     ·have hv2:(verE 3 V != 0)=false:=by simp[hv]
      have X2:Hid (aWant (((bl s).drop k).take (runN inkB ((bl s).drop k)))=some ⟨q,bl N,o',bl V⟩):=by show _=_;rw[HW1.out,if_pos hv]
      have K6:Hid (Blk w5 wr.heap.size (Wnt.cells ⟨q,bl N,o',bl V⟩)):=by show Blk _ _ _;simp only[Wnt.cells,mk_bl];exact K5.out
      clear hv
      go_wp2_with fail
      go_meet
      exact⟨k5,_,rfl,by omega,hk5s,K6,S5,X2,HW2⟩
     ·have hv2:(verE 3 V != 0)=true:=by simp[hv]
      have HV:=HidN.mk hv
      have E:Hid (aParse (bl s)=none):=by
       show _=_;rw[HN.out];exact aTop_none HK.out (by rw[HW1.out,if_neg hv])
      clear hv
      have r0:=S5.out.ret.cell 0 _ rfl
      have r1:=S5.out.ret.cell 1 _ rfl
      have r2:=S5.out.ret.cell 2 _ rfl
      have fr0:=S5.out.ret.free 0 (by simp)
      have fr1:=S5.out.ret.free 1 (by simp)
      have fr2:=S5.out.ret.free 2 (by simp)
      go_wp2_with fail
      refine bodyPost_ret (v:=.tuple #[.slice none 0 0,.agg #[.string ⟨#[]⟩,.int .i64 k3,.int .i64 (verE 3 V)]]) (by simp[results,Tryz.results152,go_sem,r0,r1,r2]) rfl ?_
      refine⟨none,0,0,⟨#[]⟩,k3,verE 3 V,rfl,?_,by rw[E.out];exact⟨HV.out,rfl,rfl⟩⟩
      exact below_set (below_set (below_set S5.out.bel lr _) lr _) lr _
  case rest=>
  obtain⟨k4,x,rfl,hk4,hk4s,K4,S4,X2,X3⟩:=hcut
  have HN2:Hid (aParse (bl s)=aTop (f-1+1) (L++[x]) ((bl s).drop k4)):=by
   have hf:=HF.out
   show _=_
   rw[HN.out,aTop_some HK.out (by rw[HR.out.len];exact h64) X2.out,X3.out,show f-1+1=f by omega]
  have HF2:Hid (s.size-k4≤f-1):=by have:=HF.out;show _≤_;omega
  have c0:=K4.out.cell 0 _ rfl
  have c1:=K4.out.cell 1 _ rfl
  have c2:=K4.out.cell 2 _ rfl
  have c3:=K4.out.cell 3 _ rfl
  go_wp2_with (at_builtin;refine wpList_append_any _ rfl _ _ _ rfl (w.heap.size+1) 172 i0 _ 4 48 Tryz.underlying125 hi0 hz0 hz1 hz2 rfl (by omega) (.slice A n c) n _ rfl (S4.out.row.alloc _) (wc.heap.size+1) (some ⟨wc.heap.size,0,none⟩) 1 1 x.cells rfl (reads_want wc 172 (.bool x.no) (.string (mkB x.name)) (.int .i64 x.op) (.string (mkB x.ver))) (by simp[Value.oneCell',Wnt.cells]) (by simp only[maxLen];omega) (by omega) (by simp;have:=S4.out.ret.sz;omega) ?_;intro v1 w3 o1 g1 a1)
  obtain⟨A1,c1',rfl⟩:=owns_form o1
  have R3:=hid (S4.out.grow1 (x:=x) o1 g1)
  clear o1 g1 a1
  go_wp2_with fail
  go_roundw
  case rel=>exact⟨L++[x],A1,n+1,c1',k4,f-1,rfl,rfl,hk4s,by omega,R3,HN2,HF2⟩
  case measure=>simp[intOf];omega
end
section
open Go.RowKit
theorem r19_gives1 (A:Option Addr)(c:Nat)(l:List AtomM)(w:World)(hr:Rd w 3 A l.length (l.flatMap AtomM.cells))(hn:l.length≤9223372036854775807)(hf:∀ x∈l,x.nm.size≤4294967280∧x.ver.size≤4294967280):
  Calls Tryz.prog 73 #[.int .i64 1,.slice A l.length c] w fun e w'=>e=.returned (.bool (givesB 1 l))∧Below w.heap.size w w':=by
 have HR:=hid hr;have HF:=hid hf
 clear hr hf
 by_cases h32:32<l.length
 ·have E:=hid (gives_large (fmt:=1) h32)
  go_enter Tryz.func73,Tryz.ntmps73
  go_wp2_with fail
  go_ret
  exact⟨ret_bool E.out.symm,bR⟩
 go_enter Tryz.func73,Tryz.ntmps73
 go_wp2_with fail
 go_loopw [5] (fun i wr=>∃ k:Nat,k≤l.length∧i=.int .i64 k∧Hid (Below w.heap.size w wr)∧Hid (∀ (j:Nat) x,j<k→l[j]?=some x→giveB 1 x=true)) (fun i _=>l.length-(intOf i).toNat)
 case atStart=>exact⟨0,z0,rfl,bR,fun j x h=>absurd h (Nat.not_lt_zero _)⟩
 case round=>
  obtain⟨k,hk,rfl,HB,HA⟩:=hrel
  by_cases hlt:k<l.length
  ·obtain⟨x,hx⟩:∃ x,l[k]?=some x:=⟨_,gG hlt⟩
   obtain⟨b,off,hA,he⟩:=(HR.out.below HB.out).elem atom_len k x hx
   have e0:=he 0 _ rfl
   have e1:=he 1 _ rfl
   have e2:=he 2 _ rfl
   simp only[Nat.add_zero] at e0
   have hix:=fun W=>idx_of (T:=23) (E:=48) (sz:=3) (c:=c) Tryz.underlying23 rfl Tryz.sizeOf48 hA hlt W
   obtain⟨z1,z2⟩:=HF.out x (gM hx)
   have BAD:=hid (fun h=>gives_bad (fmt:=1) (gM hx) h)
   have GOOD:Hid (giveB 1 x=true→∀ (j:Nat) y,j<k+1→l[j]?=some y→giveB 1 y=true):=by
    intro h j y hj hy
    by_cases e:j=k
    ·subst e;rw[hx] at hy;injection hy with hy;rw[←hy];exact h
    ·exact HA.out j y (by omega) hy
   clear hx he hA
   have hN:=fun W=>r14_Name x.nm W (by omega)
   have B1:Hid (Below w.heap.size w (wr.alloc (.cells #[.string x.nm,.int .i64 x.op,.string x.ver] 48))):=HB.out.alloc HB.out.size _
   cases hnm:nameF 1 (bl x.nm) with
   | false=>
    have E:=hid (BAD.out (by unfold giveB;rw[hnm];rfl))
    rw[show dnameB (bl x.nm)=_ from hnm] at hN
    clear hnm
    go_wp2_with fail
    refine(r16_Name x.nm _ (by omega)).mono ?_;rintro e w' ⟨rfl,rfl⟩
    go_wp2_with fail
    refine(hN _).mono ?_;rintro e w' ⟨rfl,rfl⟩
    go_wp2_with fail
    all_goals go_ret
    all_goals exact⟨ret_bool E.out.symm,HB.out.alloc HB.out.size _⟩
   | true=>
    rw[show dnameB (bl x.nm)=_ from hnm] at hN
    have GB:Hid (giveB 1 x=if x.op=0 then decide (x.ver.size=0) else decide (x.op=3)&&decide (verE 1 x.ver=0)):=by show _=_;unfold giveB;rw[hnm];rfl
    clear hnm
    by_cases o0:x.op=0
    ·have q0:(x.op==0)=true:=by simpa using o0
     by_cases hv:x.ver.size=0
     ·have hv1:x.ver.toList=[]:=by rw[bl_toList,bl_nil _ hv]
      have hv2:x.ver.toList.isEmpty=true:=by rw[hv1];rfl
      have G:=hid (GOOD.out (by rw[GB.out,if_pos o0,dT hv]))
      clear o0 hv
      go_wp2_with fail
      refine(r16_Name x.nm _ (by omega)).mono ?_;rintro e w' ⟨rfl,rfl⟩
      go_wp2_with fail
      refine(hN _).mono ?_;rintro e w' ⟨rfl,rfl⟩
      go_wp2_with fail
      go_roundw
      case rel=>exact⟨k+1,by omega,by go_num,B1,G⟩
      case measure=>simp[intOf];omega
     ·have hv2:x.ver.toList.isEmpty=false:=by rw[bl_toList,bl_isEmpty];exact dF hv
      have hv1:¬ x.ver.toList=[]:=by intro h;rw[h] at hv2;simp at hv2
      have q3:(x.op != 3)=true:=by rw[o0];rfl
      have E:=hid (BAD.out (by rw[GB.out,if_pos o0,dF hv]))
      clear o0 hv
      go_wp2_with fail
      refine(r16_Name x.nm _ (by omega)).mono ?_;rintro e w' ⟨rfl,rfl⟩
      go_wp2_with fail
      refine(hN _).mono ?_;rintro e w' ⟨rfl,rfl⟩
      go_wp2_with fail
      go_ret
      exact⟨ret_bool E.out.symm,B1.out⟩
    have q0:(x.op==0)=false:=by simpa using o0
    by_cases o3:x.op=3
    ·have q3:(x.op != 3)=false:=by simp[o3]
     by_cases hv:verE 1 x.ver=0
     ·have hv2:(verE 1 x.ver != 0)=false:=by simp[hv]
      have G:=hid (GOOD.out (by rw[GB.out,if_neg o0,dT o3,dT hv];rfl))
      clear o0 o3 hv
      go_wp2_with fail
      refine(r16_Name x.nm _ (by omega)).mono ?_;rintro e w' ⟨rfl,rfl⟩
      go_wp2_with fail
      refine(hN _).mono ?_;rintro e w' ⟨rfl,rfl⟩
      go_wp2_with fail
      refine(r12_Check 1 x.ver _ (by omega)).mono ?_;rintro e w1 ⟨rfl,hb1⟩
      have B2:Hid (Below w.heap.size w w1):=bthen B1.out hb1
      clear hb1
      go_wp2_with fail
      go_roundw
      case rel=>exact⟨k+1,by omega,by go_num,B2,G⟩
      case measure=>simp[intOf];omega
     ·have hv2:(verE 1 x.ver != 0)=true:=by simp[hv]
      have E:=hid (BAD.out (by rw[GB.out,if_neg o0,dT o3,dF hv];rfl))
      clear o0 o3 hv
      go_wp2_with fail
      refine(r16_Name x.nm _ (by omega)).mono ?_;rintro e w' ⟨rfl,rfl⟩
      go_wp2_with fail
      refine(hN _).mono ?_;rintro e w' ⟨rfl,rfl⟩
      go_wp2_with fail
      refine(r12_Check 1 x.ver _ (by omega)).mono ?_;rintro e w1 ⟨rfl,hb1⟩
      have B2:Hid (Below w.heap.size w w1):=bthen B1.out hb1
      clear hb1
      go_wp2_with fail
      go_ret
      exact⟨ret_bool E.out.symm,B2.out⟩
    ·have q3:(x.op != 3)=true:=by simpa [bne] using o3
     have E:=hid (BAD.out (by rw[GB.out,if_neg o0,dF o3];rfl))
     clear o0 o3
     go_wp2_with fail
     refine(r16_Name x.nm _ (by omega)).mono ?_;rintro e w' ⟨rfl,rfl⟩
     go_wp2_with fail
     refine(hN _).mono ?_;rintro e w' ⟨rfl,rfl⟩
     go_wp2_with fail
     go_ret
     exact⟨ret_bool E.out.symm,B1.out⟩
  ·have E:=hid (gives_good (fmt:=1) h32 (fun j x hj=>HA.out j x (by have:=(gS hj).1;omega) hj))
   go_wp2_with fail
   go_ret
   exact⟨ret_bool E.out.symm,HB.out⟩
theorem r19_gives2 (A:Option Addr)(c:Nat)(l:List AtomM)(w:World)(hr:Rd w 3 A l.length (l.flatMap AtomM.cells))(hn:l.length≤9223372036854775807)(hf:∀ x∈l,x.nm.size≤4294967280∧x.ver.size≤4294967280):
  Calls Tryz.prog 73 #[.int .i64 2,.slice A l.length c] w fun e w'=>e=.returned (.bool (givesB 2 l))∧Below w.heap.size w w':=by
 have HR:=hid hr;have HF:=hid hf
 clear hr hf
 by_cases h32:32<l.length
 ·have E:=hid (gives_large (fmt:=2) h32)
  go_enter Tryz.func73,Tryz.ntmps73
  go_wp2_with fail
  go_ret
  exact⟨ret_bool E.out.symm,bR⟩
 go_enter Tryz.func73,Tryz.ntmps73
 go_wp2_with fail
 go_loopw [5] (fun i wr=>∃ k:Nat,k≤l.length∧i=.int .i64 k∧Hid (Below w.heap.size w wr)∧Hid (∀ (j:Nat) x,j<k→l[j]?=some x→giveB 2 x=true)) (fun i _=>l.length-(intOf i).toNat)
 case atStart=>exact⟨0,z0,rfl,bR,fun j x h=>absurd h (Nat.not_lt_zero _)⟩
 case round=>
  obtain⟨k,hk,rfl,HB,HA⟩:=hrel
  by_cases hlt:k<l.length
  ·obtain⟨x,hx⟩:∃ x,l[k]?=some x:=⟨_,gG hlt⟩
   obtain⟨b,off,hA,he⟩:=(HR.out.below HB.out).elem atom_len k x hx
   have e0:=he 0 _ rfl
   have e1:=he 1 _ rfl
   have e2:=he 2 _ rfl
   simp only[Nat.add_zero] at e0
   have hix:=fun W=>idx_of (T:=23) (E:=48) (sz:=3) (c:=c) Tryz.underlying23 rfl Tryz.sizeOf48 hA hlt W
   obtain⟨z1,z2⟩:=HF.out x (gM hx)
   have BAD:=hid (fun h=>gives_bad (fmt:=2) (gM hx) h)
   have GOOD:Hid (giveB 2 x=true→∀ (j:Nat) y,j<k+1→l[j]?=some y→giveB 2 y=true):=by
    intro h j y hj hy
    by_cases e:j=k
    ·subst e;rw[hx] at hy;injection hy with hy;rw[←hy];exact h
    ·exact HA.out j y (by omega) hy
   clear hx he hA
   have hN:=fun W=>r15_Name x.nm W (by omega)
   have B1:Hid (Below w.heap.size w (wr.alloc (.cells #[.string x.nm,.int .i64 x.op,.string x.ver] 48))):=HB.out.alloc HB.out.size _
   cases hnm:nameF 2 (bl x.nm) with
   | false=>
    have E:=hid (BAD.out (by unfold giveB;rw[hnm];rfl))
    rw[show rnameB (bl x.nm)=_ from hnm] at hN
    clear hnm
    go_wp2_with fail
    refine(r16_Name x.nm _ (by omega)).mono ?_;rintro e w' ⟨rfl,rfl⟩
    go_wp2_with fail
    refine(hN _).mono ?_;rintro e w' ⟨rfl,rfl⟩
    go_wp2_with fail
    all_goals go_ret
    all_goals exact⟨ret_bool E.out.symm,HB.out.alloc HB.out.size _⟩
   | true=>
    rw[show rnameB (bl x.nm)=_ from hnm] at hN
    have GB:Hid (giveB 2 x=if x.op=0 then decide (x.ver.size=0) else decide (x.op=3)&&decide (verE 2 x.ver=0)):=by show _=_;unfold giveB;rw[hnm];rfl
    clear hnm
    by_cases o0:x.op=0
    ·have q0:(x.op==0)=true:=by simpa using o0
     by_cases hv:x.ver.size=0
     ·have hv1:x.ver.toList=[]:=by rw[bl_toList,bl_nil _ hv]
      have hv2:x.ver.toList.isEmpty=true:=by rw[hv1];rfl
      have G:=hid (GOOD.out (by rw[GB.out,if_pos o0,dT hv]))
      clear o0 hv
      go_wp2_with fail
      refine(r16_Name x.nm _ (by omega)).mono ?_;rintro e w' ⟨rfl,rfl⟩
      go_wp2_with fail
      refine(hN _).mono ?_;rintro e w' ⟨rfl,rfl⟩
      go_wp2_with fail
      go_roundw
      case rel=>exact⟨k+1,by omega,by go_num,B1,G⟩
      case measure=>simp[intOf];omega
     ·have hv2:x.ver.toList.isEmpty=false:=by rw[bl_toList,bl_isEmpty];exact dF hv
      have hv1:¬ x.ver.toList=[]:=by intro h;rw[h] at hv2;simp at hv2
      have q3:(x.op != 3)=true:=by rw[o0];rfl
      have E:=hid (BAD.out (by rw[GB.out,if_pos o0,dF hv]))
      clear o0 hv
      go_wp2_with fail
      refine(r16_Name x.nm _ (by omega)).mono ?_;rintro e w' ⟨rfl,rfl⟩
      go_wp2_with fail
      refine(hN _).mono ?_;rintro e w' ⟨rfl,rfl⟩
      go_wp2_with fail
      go_ret
      exact⟨ret_bool E.out.symm,B1.out⟩
    have q0:(x.op==0)=false:=by simpa using o0
    by_cases o3:x.op=3
    ·have q3:(x.op != 3)=false:=by simp[o3]
     by_cases hv:verE 2 x.ver=0
     ·have hv2:(verE 2 x.ver != 0)=false:=by simp[hv]
      have G:=hid (GOOD.out (by rw[GB.out,if_neg o0,dT o3,dT hv];rfl))
      clear o0 o3 hv
      go_wp2_with fail
      refine(r16_Name x.nm _ (by omega)).mono ?_;rintro e w' ⟨rfl,rfl⟩
      go_wp2_with fail
      refine(hN _).mono ?_;rintro e w' ⟨rfl,rfl⟩
      go_wp2_with fail
      refine(r12_Check 2 x.ver _ (by omega)).mono ?_;rintro e w1 ⟨rfl,hb1⟩
      have B2:Hid (Below w.heap.size w w1):=bthen B1.out hb1
      clear hb1
      go_wp2_with fail
      go_roundw
      case rel=>exact⟨k+1,by omega,by go_num,B2,G⟩
      case measure=>simp[intOf];omega
     ·have hv2:(verE 2 x.ver != 0)=true:=by simp[hv]
      have E:=hid (BAD.out (by rw[GB.out,if_neg o0,dT o3,dF hv];rfl))
      clear o0 o3 hv
      go_wp2_with fail
      refine(r16_Name x.nm _ (by omega)).mono ?_;rintro e w' ⟨rfl,rfl⟩
      go_wp2_with fail
      refine(hN _).mono ?_;rintro e w' ⟨rfl,rfl⟩
      go_wp2_with fail
      refine(r12_Check 2 x.ver _ (by omega)).mono ?_;rintro e w1 ⟨rfl,hb1⟩
      have B2:Hid (Below w.heap.size w w1):=bthen B1.out hb1
      clear hb1
      go_wp2_with fail
      go_ret
      exact⟨ret_bool E.out.symm,B2.out⟩
    ·have q3:(x.op != 3)=true:=by simpa [bne] using o3
     have E:=hid (BAD.out (by rw[GB.out,if_neg o0,dF o3];rfl))
     clear o0 o3
     go_wp2_with fail
     refine(r16_Name x.nm _ (by omega)).mono ?_;rintro e w' ⟨rfl,rfl⟩
     go_wp2_with fail
     refine(hN _).mono ?_;rintro e w' ⟨rfl,rfl⟩
     go_wp2_with fail
     go_ret
     exact⟨ret_bool E.out.symm,B1.out⟩
  ·have E:=hid (gives_good (fmt:=2) h32 (fun j x hj=>HA.out j x (by have:=(gS hj).1;omega) hj))
   go_wp2_with fail
   go_ret
   exact⟨ret_bool E.out.symm,HB.out⟩
theorem r19_gives3 (A:Option Addr)(c:Nat)(l:List AtomM)(w:World)(hr:Rd w 3 A l.length (l.flatMap AtomM.cells))(hn:l.length≤9223372036854775807)(hf:∀ x∈l,x.nm.size≤4294967280∧x.ver.size≤4294967280):
  Calls Tryz.prog 73 #[.int .i64 3,.slice A l.length c] w fun e w'=>e=.returned (.bool (givesB 3 l))∧Below w.heap.size w w':=by
 have HR:=hid hr;have HF:=hid hf
 clear hr hf
 by_cases h32:32<l.length
 ·have E:=hid (gives_large (fmt:=3) h32)
  go_enter Tryz.func73,Tryz.ntmps73
  go_wp2_with fail
  go_ret
  exact⟨ret_bool E.out.symm,bR⟩
 go_enter Tryz.func73,Tryz.ntmps73
 go_wp2_with fail
 go_loopw [5] (fun i wr=>∃ k:Nat,k≤l.length∧i=.int .i64 k∧Hid (Below w.heap.size w wr)∧Hid (∀ (j:Nat) x,j<k→l[j]?=some x→giveB 3 x=true)) (fun i _=>l.length-(intOf i).toNat)
 case atStart=>exact⟨0,z0,rfl,bR,fun j x h=>absurd h (Nat.not_lt_zero _)⟩
 case round=>
  obtain⟨k,hk,rfl,HB,HA⟩:=hrel
  by_cases hlt:k<l.length
  ·obtain⟨x,hx⟩:∃ x,l[k]?=some x:=⟨_,gG hlt⟩
   obtain⟨b,off,hA,he⟩:=(HR.out.below HB.out).elem atom_len k x hx
   have e0:=he 0 _ rfl
   have e1:=he 1 _ rfl
   have e2:=he 2 _ rfl
   simp only[Nat.add_zero] at e0
   have hix:=fun W=>idx_of (T:=23) (E:=48) (sz:=3) (c:=c) Tryz.underlying23 rfl Tryz.sizeOf48 hA hlt W
   obtain⟨z1,z2⟩:=HF.out x (gM hx)
   have BAD:=hid (fun h=>gives_bad (fmt:=3) (gM hx) h)
   have GOOD:Hid (giveB 3 x=true→∀ (j:Nat) y,j<k+1→l[j]?=some y→giveB 3 y=true):=by
    intro h j y hj hy
    by_cases e:j=k
    ·subst e;rw[hx] at hy;injection hy with hy;rw[←hy];exact h
    ·exact HA.out j y (by omega) hy
   clear hx he hA
   have hN:=fun W=>r16_Name x.nm W (by omega)
   have B1:Hid (Below w.heap.size w (wr.alloc (.cells #[.string x.nm,.int .i64 x.op,.string x.ver] 48))):=HB.out.alloc HB.out.size _
   cases hnm:nameF 3 (bl x.nm) with
   | false=>
    have E:=hid (BAD.out (by unfold giveB;rw[hnm];rfl))
    rw[show anameB (bl x.nm)=_ from hnm] at hN
    clear hnm
    go_wp2_with fail
    refine(hN _).mono ?_;rintro e w' ⟨rfl,rfl⟩
    go_wp2_with fail
    all_goals go_ret
    all_goals exact⟨ret_bool E.out.symm,HB.out.alloc HB.out.size _⟩
   | true=>
    rw[show anameB (bl x.nm)=_ from hnm] at hN
    have GB:Hid (giveB 3 x=if x.op=0 then decide (x.ver.size=0) else decide (x.op=3)&&decide (verE 3 x.ver=0)):=by show _=_;unfold giveB;rw[hnm];rfl
    clear hnm
    by_cases o0:x.op=0
    ·have q0:(x.op==0)=true:=by simpa using o0
     by_cases hv:x.ver.size=0
     ·have hv1:x.ver.toList=[]:=by rw[bl_toList,bl_nil _ hv]
      have hv2:x.ver.toList.isEmpty=true:=by rw[hv1];rfl
      have G:=hid (GOOD.out (by rw[GB.out,if_pos o0,dT hv]))
      clear o0 hv
      go_wp2_with fail
      refine(hN _).mono ?_;rintro e w' ⟨rfl,rfl⟩
      go_wp2_with fail
      go_roundw
      case rel=>exact⟨k+1,by omega,by go_num,B1,G⟩
      case measure=>simp[intOf];omega
     ·have hv2:x.ver.toList.isEmpty=false:=by rw[bl_toList,bl_isEmpty];exact dF hv
      have hv1:¬ x.ver.toList=[]:=by intro h;rw[h] at hv2;simp at hv2
      have q3:(x.op != 3)=true:=by rw[o0];rfl
      have E:=hid (BAD.out (by rw[GB.out,if_pos o0,dF hv]))
      clear o0 hv
      go_wp2_with fail
      refine(hN _).mono ?_;rintro e w' ⟨rfl,rfl⟩
      go_wp2_with fail
      go_ret
      exact⟨ret_bool E.out.symm,B1.out⟩
    have q0:(x.op==0)=false:=by simpa using o0
    by_cases o3:x.op=3
    ·have q3:(x.op != 3)=false:=by simp[o3]
     by_cases hv:verE 3 x.ver=0
     ·have hv2:(verE 3 x.ver != 0)=false:=by simp[hv]
      have G:=hid (GOOD.out (by rw[GB.out,if_neg o0,dT o3,dT hv];rfl))
      clear o0 o3 hv
      go_wp2_with fail
      refine(hN _).mono ?_;rintro e w' ⟨rfl,rfl⟩
      go_wp2_with fail
      refine(r12_Check 3 x.ver _ (by omega)).mono ?_;rintro e w1 ⟨rfl,hb1⟩
      have B2:Hid (Below w.heap.size w w1):=bthen B1.out hb1
      clear hb1
      go_wp2_with fail
      go_roundw
      case rel=>exact⟨k+1,by omega,by go_num,B2,G⟩
      case measure=>simp[intOf];omega
     ·have hv2:(verE 3 x.ver != 0)=true:=by simp[hv]
      have E:=hid (BAD.out (by rw[GB.out,if_neg o0,dT o3,dF hv];rfl))
      clear o0 o3 hv
      go_wp2_with fail
      refine(hN _).mono ?_;rintro e w' ⟨rfl,rfl⟩
      go_wp2_with fail
      refine(r12_Check 3 x.ver _ (by omega)).mono ?_;rintro e w1 ⟨rfl,hb1⟩
      have B2:Hid (Below w.heap.size w w1):=bthen B1.out hb1
      clear hb1
      go_wp2_with fail
      go_ret
      exact⟨ret_bool E.out.symm,B2.out⟩
    ·have q3:(x.op != 3)=true:=by simpa [bne] using o3
     have E:=hid (BAD.out (by rw[GB.out,if_neg o0,dF o3];rfl))
     clear o0 o3
     go_wp2_with fail
     refine(hN _).mono ?_;rintro e w' ⟨rfl,rfl⟩
     go_wp2_with fail
     go_ret
     exact⟨ret_bool E.out.symm,B1.out⟩
  ·have E:=hid (gives_good (fmt:=3) h32 (fun j x hj=>HA.out j x (by have:=(gS hj).1;omega) hj))
   go_wp2_with fail
   go_ret
   exact⟨ret_bool E.out.symm,HB.out⟩
end
end Go.Proofs.YtdfdllbebfoggaaGreatDoor
