/- A part of the proof that ModelChecks holds. No condition. -/
import Derived.Test.YtdfdllbebfoggaaGreatDoorD48
set_option maxRecDepth 100000
set_option maxHeartbeats 20000000
set_option linter.unusedVariables false
set_option linter.unusedSimpArgs false
namespace Go.Proofs.YtdfdllbebfoggaaGreatDoor
section
open Go.RowKit
structure RC (w wr:World):Prop where
 bel:Below w.heap.size w wr
 res:Blk wr w.heap.size [.string ⟨#[]⟩,.string ⟨#[]⟩,.int .i64 0]
theorem RC.step {w wr w':World}(h:RC w wr)(hb:Below wr.heap.size wr w'):RC w w':=⟨bthen h.bel hb,h.res.below hb⟩
theorem RC.alloc {w wr:World}(h:RC w wr)(o:Obj):RC w (wr.alloc o):=h.step (bR.alloc lr o)
theorem RC.drew {w wr:World}(h:RC w wr):RC w wr.drew:=h.step (bR.drew)
theorem RC.drewN {w wr:World}(h:RC w wr)(n:Nat):RC w (wr.drewN n):=h.step (below_drewN bR n)
theorem RC.start (w:World):RC w (w.alloc (.cells #[.string ⟨#[]⟩,.string ⟨#[]⟩,.int .i64 0] 32)):=
 ⟨bR.alloc lr _,Blk.new w [.string ⟨#[]⟩,.string ⟨#[]⟩,.int .i64 0] _⟩
theorem RC.done {w wr:World}(h:RC w wr)(a b c:Value):Below w.heap.size w (((wr.setCell ⟨w.heap.size,0,none⟩ a).setCell ⟨w.heap.size,1,none⟩ b).setCell ⟨w.heap.size,2,none⟩ c):=
 below_set (below_set (below_set h.bel lr _) lr _) lr _
theorem nine {w:World}{b o:Nat}{p:PkL}(h:∀ (j:Nat)(u:Value),p.cells[j]?=some u→w.cell? ⟨b,o+j,none⟩=some u):
  w.cell? ⟨b,o,none⟩=some (.string p.nm)∧w.cell? ⟨b,o+1,none⟩=some (.string p.ver)∧w.cell? ⟨b,o+2,none⟩=some (.string p.ar)∧w.cell? ⟨b,o+3,none⟩=some (.string p.sm)∧w.cell? ⟨b,o+4,none⟩=some (.slice p.na p.needs.length p.nc)∧w.cell? ⟨b,o+5,none⟩=some (.slice p.ba p.bars.length p.bc)∧w.cell? ⟨b,o+6,none⟩=some (.slice p.ga p.gives.length p.gc)∧w.cell? ⟨b,o+7,none⟩=some (.slice p.fa p.files.length p.fc)∧w.cell? ⟨b,o+8,none⟩=some (.slice p.sa p.scripts.length p.sc):=
 ⟨h 0 _ rfl,h 1 _ rfl,h 2 _ rfl,h 3 _ rfl,h 4 _ rfl,h 5 _ rfl,h 6 _ rfl,h 7 _ rfl,h 8 _ rfl⟩
def At8 (w:World)(b o:Nat)(x:FileM):Prop:=
 w.cell? ⟨b,o,none⟩=some (.string x.path)∧w.cell? ⟨b,o+1,none⟩=some (.int .i64 x.kind)∧w.cell? ⟨b,o+2,none⟩=some (.int .i64 x.mode)∧w.cell? ⟨b,o+3,none⟩=some (.string x.owner)∧w.cell? ⟨b,o+4,none⟩=some (.string x.group)∧w.cell? ⟨b,o+5,none⟩=some (.string x.link)∧w.cell? ⟨b,o+6,none⟩=some (.string x.sum)∧w.cell? ⟨b,o+7,none⟩=some (.bool x.conf)
theorem eight {w:World}{b o:Nat}{x:FileM}(h:∀ (j:Nat)(u:Value),x.cells[j]?=some u→w.cell? ⟨b,o+j,none⟩=some u):At8 w b o x:=
 ⟨h 0 _ rfl,h 1 _ rfl,h 2 _ rfl,h 3 _ rfl,h 4 _ rfl,h 5 _ rfl,h 6 _ rfl,h 7 _ rfl⟩
theorem RC.six {w wr:World}(h:RC w wr):wr.cell? ⟨w.heap.size,0,none⟩=some (.string ⟨#[]⟩)∧wr.cell? ⟨w.heap.size,1,none⟩=some (.string ⟨#[]⟩)∧wr.cell? ⟨w.heap.size,2,none⟩=some (.int .i64 0)∧wr.frozen? ⟨w.heap.size,0,none⟩=false∧wr.frozen? ⟨w.heap.size,1,none⟩=false∧wr.frozen? ⟨w.heap.size,2,none⟩=false:=
 ⟨h.res.cell 0 _ rfl,h.res.cell 1 _ rfl,h.res.cell 2 _ rfl,h.res.free 0 (by simp),h.res.free 1 (by simp),h.res.free 2 (by simp)⟩
theorem rc_res {tmps:Array Value}{w w2:World}(h:RC w w2)(ht:tmps[4]?=some (.pointer (some ⟨w.heap.size,0,none⟩)))(a b:BA)(c:Int):
  (results Tryz.f20 tmps).run Tryz.prog (((w2.setCell ⟨w.heap.size,0,none⟩ (.string a)).setCell ⟨w.heap.size,1,none⟩ (.string b)).setCell ⟨w.heap.size,2,none⟩ (.int .i64 c)) =
   .ok (.agg #[.string a,.string b,.int .i64 c]) (((w2.setCell ⟨w.heap.size,0,none⟩ (.string a)).setCell ⟨w.heap.size,1,none⟩ (.string b)).setCell ⟨w.heap.size,2,none⟩ (.int .i64 c)):=by
 obtain⟨r0,r1,r2,fr0,fr1,fr2⟩:=h.six
 simp[results,Tryz.results20,ht,go_sem,r0,r1,r2]
theorem dbW_form {ans:PkL→BA×Int}{fo:Bool}{l:List PkL}(h:fo=false):dbV (dbW ans fo l)=.agg #[.string ⟨#[]⟩,.string ⟨#[102,111,114,109,97,116]⟩,.int .i64 9]:=by unfold dbW;rw[if_pos h];rfl
theorem dbW_large {ans:PkL→BA×Int}{fo:Bool}{l:List PkL}(h:fo=true)(hl:128<l.length):dbV (dbW ans fo l)=.agg #[.string ⟨#[]⟩,.string ⟨#[112,97,99,107,97,103,101,115]⟩,.int .i64 4]:=by unfold dbW;rw[if_neg (by rw[h];simp),if_pos hl];rfl
theorem dbW_else {ans:PkL→BA×Int}{fo:Bool}{l:List PkL}(h:fo=true)(hl:¬ 128<l.length):dbW ans fo l=dbE ans [] l:=by unfold dbW;rw[if_neg (by rw[h];simp),if_neg hl]
set_option maxRecDepth 100000 in
set_option maxHeartbeats 16000000 in
theorem ref_Check (fmt:Int)(A:Option Addr)(c:Nat)(l:List PkL)(w:World)(hd:DbOk w A l)(hl:l.length≤100000)(hs:∀ p∈l,p.small):
  Calls Tryz.prog 20 #[.int .i64 fmt,.slice A l.length c] w fun e w'=>e=.returned (dbV (dbW (pkAll fmt) (fmtB fmt) l))∧Below w.heap.size w w':=by
 have HD:=hid hd;have HS:=hid hs
 clear hd hs
 have R0:=hid (RC.start w)
 obtain⟨W0,hW0⟩:∃ W0,w.alloc (.cells #[.string ⟨#[]⟩,.string ⟨#[]⟩,.int .i64 0] 32)=W0:=⟨_,rfl⟩
 have R0':Hid (RC w W0):=by show RC w W0;rw[←hW0];exact R0.out
 cases hfm:fmtB fmt with
 | false=>
  have hf':fmt<1∨3<fmt:=by simp[fmtB] at hfm;omega
  have E:Hid (dbV (dbW (pkAll fmt) false l)=_):=dbW_form rfl
  obtain⟨r0,r1,r2,fr0,fr1,fr2⟩:=R0'.out.six
  clear hfm R0
  by_cases h1:fmt<1
  ·have d1:decide (fmt<1)=true:=dT h1
   clear h1 hf'
   go_enter Tryz.func20,Tryz.ntmps20
   go_wp2_with fail
   exact bodyPost_ret (rc_res R0'.out rfl _ _ _) rfl ⟨by rw[E.out],R0'.out.done _ _ _⟩
  ·have d1:decide (fmt<1)=false:=dF h1
   have d3:decide (3<fmt)=true:=dT (by omega)
   clear h1 hf'
   go_enter Tryz.func20,Tryz.ntmps20
   go_wp2_with fail
   exact bodyPost_ret (rc_res R0'.out rfl _ _ _) rfl ⟨by rw[E.out],R0'.out.done _ _ _⟩
 | true=>
 have hf:=fmtB_iff hfm
 have d1:decide (fmt<1)=false:=dF (by omega)
 have d3:decide (3<fmt)=false:=dF (by omega)
 clear hfm hf R0
 by_cases h128:128<l.length
 ·have d8:decide ((128:Int)<l.length)=true:=dT (by omega)
  have d8n:decide (128<l.length)=true:=dT h128
  have E:Hid (dbV (dbW (pkAll fmt) true l)=_):=dbW_large rfl h128
  obtain⟨r0,r1,r2,fr0,fr1,fr2⟩:=R0'.out.six
  clear h128
  go_enter Tryz.func20,Tryz.ntmps20
  go_wp2_with fail
  exact bodyPost_ret (rc_res R0'.out rfl _ _ _) rfl ⟨by rw[E.out],R0'.out.done _ _ _⟩
 have d8:decide ((128:Int)<l.length)=false:=dF (by omega)
 have d8n:decide (128<l.length)=false:=dF h128
 have E0:Hid (dbW (pkAll fmt) true l=dbE (pkAll fmt) [] l):=dbW_else rfl h128
 clear h128
 rw[E0.out]
 go_enter Tryz.func20,Tryz.ntmps20
 go_wp2_with fail
 clear hW0 d8 d8n d1 d3
 go_loopw [5] (fun i wr=>∃ k:Nat,k≤l.length∧i=.int .i64 k∧Hid (dbE (pkAll fmt) [] l=dbE (pkAll fmt) (l.take k) (l.drop k))∧Hid (RC w wr)) (fun i _=>l.length-(intOf i).toNat)
 case atStart=>exact⟨0,z0,rfl,rfl,R0'⟩
 case round=>
  clear R0'
  obtain⟨k,hk,rfl,HE,HR⟩:=hrel
  by_cases hlt:k<l.length
  ·obtain⟨p,hp⟩:∃ p,l[k]?=some p:=⟨_,gG hlt⟩
   have hpm:p∈l:=gM hp
   have HP:=hid hp;have HPM:=hid hpm
   clear hp hpm
   obtain⟨b,off,hA,he⟩:=(HD.out.row.below HR.out.bel).elem pk_len k p HP.out
   obtain⟨e0,e1,e2,e3,e4,e5,e6,e7,e8⟩:=nine he
   have hix:=fun W=>idx_of (T:=40) (E:=27) (sz:=9) (c:=c) Tryz.underlying40 rfl Tryz.sizeOf27 hA hlt W
   have HA:=hid hA
   clear hA he
   have HC:=hid fun (W:World) (h:p.ok W)=>ref_cp_all fmt p W h (HS.out p HPM.out)
   obtain⟨⟨what,code⟩,hr⟩:∃ r,pkAll fmt p=r:=⟨_,rfl⟩
   have HQ:=hid hr;clear hr
   rw[HQ.out] at HC
   by_cases hc:¬ code=0
   ·rw[ckV_else _ _ hc] at HC
    have q1:(code != 0)=true:=by simp[hc]
    have E:Hid (dbE (pkAll fmt) [] l=(p.nm,what,code)):=by
     have h1:=pkE_ans (pre:=l.take k) (p:=p) (ans:=(what,code)) hc
     show _=_
     rw[dbE_bad HP.out HE.out (by rw[HQ.out,h1];exact hc),HQ.out,h1]
    clear hc
    go_wp2_with fail
    refine(HC.out wr ((HD.out.all p HPM.out).below HR.out.bel)).mono ?_;rintro e w1 ⟨rfl,hb1⟩
    have R1:=hid ((HR.out.step hb1).alloc (.cells #[.string p.nm,.string what,.int .i64 code] 32))
    have K1:=hid (Blk.new w1 [.string p.nm,.string what,.int .i64 code] 32)
    clear hb1 e0 e1 e2 e3 e4 e5 e6 e7 e8 hix
    obtain⟨W1,hW1⟩:∃ W1,w1.alloc (.cells #[.string p.nm,.string what,.int .i64 code] 32)=W1:=⟨_,rfl⟩
    have R1':Hid (RC w W1):=by show RC w W1;rw[←hW1];exact R1.out
    have K1':Hid (Blk W1 w1.heap.size [.string p.nm,.string what,.int .i64 code]):=by show Blk W1 _ _;rw[←hW1];exact K1.out
    have k0:=K1'.out.cell 0 _ rfl
    have k1:=K1'.out.cell 1 _ rfl
    have k2:=K1'.out.cell 2 _ rfl
    obtain⟨r0,r1,r2,fr0,fr1,fr2⟩:=R1'.out.six
    clear R1 K1
    go_wp2_with fail
    exact bodyPost_ret (rc_res R1'.out rfl _ _ _) rfl ⟨by rw[E.out];rfl,R1'.out.done _ _ _⟩
   obtain rfl:code=0:=Decidable.not_not.1 hc
   clear hc
   rw[ckV_zero] at HC
   have A0:Hid ((pkAll fmt p).2=0):=by show _=_;rw[HQ.out]
   go_wp2_with fail
   refine(HC.out wr ((HD.out.all p HPM.out).below HR.out.bel)).mono ?_;rintro e w1 ⟨rfl,hb1⟩
   have R1:=hid ((HR.out.step hb1).alloc (.cells #[.string ⟨#[]⟩,.string ⟨#[]⟩,.int .i64 0] 32))
   clear hb1 e0 e1 e2 e3 e4 e5 e6 e7 e8
   go_upto_region 11 with(fail)
   obtain⟨W1,hW1⟩:∃ W1,w1.alloc (.cells #[.string ⟨#[]⟩,.string ⟨#[]⟩,.int .i64 0] 32)=W1:=⟨_,rfl⟩
   have R1':Hid (RC w W1):=by show RC w W1;rw[←hW1];exact R1.out
   rw[hW1]
   clear R1 hW1
   go_cut [53] (fun s53 wx=>∃ bb:Bool,s53=.bool bb∧Hid (bb=!ordP l k p)∧Hid (RC w wx))
   case first=>
    by_cases k0:k=0
    ·have k0':decide (0<(k:Int))=false:=dF (by omega)
     have k0n:decide (0<k)=false:=dF (by omega)
     have OB:Hid (false=!ordP l k p):=by show _=_;rw[k0,ordP_zero];rfl
     clear k0
     go_quiet (fail)
     go_wp2_with fail
     go_meet
     exact⟨false,rfl,OB,R1'.out.drewN _⟩
    ·have k0':decide (0<(k:Int))=true:=dT (by omega)
     have k0n:decide (0<k)=true:=dT (by omega)
     have kpos:0<k:=by omega
     obtain⟨q,hq⟩:∃ q,l[k-1]?=some q:=⟨_,gG (by omega)⟩
     obtain⟨b1,off1,hA1,he1⟩:=(HD.out.row.below R1'.out.bel).elem pk_len k p HP.out
     obtain⟨b2,off2,hA2,he2⟩:=(HD.out.row.below R1'.out.bel).elem pk_len (k-1) q hq
     obtain⟨rfl,rfl⟩:b=b1∧off=off1:=by have:=HA.out;rw[hA1] at this;injection this with this;injection this with h1 h2 _;exact⟨h1.symm,h2.symm⟩
     obtain⟨rfl,rfl⟩:b=b2∧off=off2:=by have:=HA.out;rw[hA2] at this;injection this with this;injection this with h1 h2 _;exact⟨h1.symm,h2.symm⟩
     have e0:=he1 0 _ rfl
     have p0:=he2 0 _ rfl
     simp only[Nat.add_zero] at e0 p0
     have hixp:=fun W=>idx_int (T:=40) (E:=27) (sz:=9) (c:=c) (i:=(k:Int)-1) Tryz.underlying40 rfl Tryz.sizeOf27 (by omega) hA2 (show k-1<l.length by omega) W
     have OB:Hid ((!Op.bytesLess q.nm.toList p.nm.toList)=!ordP l k p):=by
      show _=_
      have:=ordP_succ (l:=l) (k:=k-1) p hq
      rw[show k-1+1=k by omega] at this
      rw[this,bytesLess_dec,bl_toList,bl_toList]
     have iw:IntKind.i64.wrap ((k:Int)-1)=(k:Int)-1:=IntWalk.i64_in _ (by omega)
     clear hq he1 he2 hA1 hA2 k0
     go_quiet (fail)
     go_wp2_with fail
     go_meet
     exact⟨_,rfl,OB,R1'.out.drewN _⟩
   case rest=>
   clear R1'
   obtain⟨bb,rfl,HOB,HR2⟩:=hcut
   cases bb
   case true=>
    have HO:Hid (ordP l k p=false):=by have:=HOB.out;show _=_;revert this;cases ordP l k p<;>simp
    have E:Hid (dbE (pkAll fmt) [] l=(p.nm,⟨#[110,97,109,101]⟩,15)):=by
     have h1:=pkE_ord (ans:=pkAll fmt p) A0.out HO.out
     show _=_
     rw[dbE_bad HP.out HE.out (by rw[h1];simp),h1]
    obtain⟨b1,off1,hA1,he1⟩:=(HD.out.row.below HR2.out.bel).elem pk_len k p HP.out
    obtain⟨rfl,rfl⟩:b=b1∧off=off1:=by have:=HA.out;rw[hA1] at this;injection this with this;injection this with h1 h2 _;exact⟨h1.symm,h2.symm⟩
    have e0:=he1 0 _ rfl
    simp only[Nat.add_zero] at e0
    obtain⟨r0,r1,r2,fr0,fr1,fr2⟩:=HR2.out.six
    clear he1 hA1
    go_wp2_with fail
    exact bodyPost_ret (rc_res HR2.out rfl _ _ _) rfl ⟨by rw[E.out];rfl,HR2.out.done _ _ _⟩
   have HO:Hid (ordP l k p=true):=by have:=HOB.out;show _=_;revert this;cases ordP l k p<;>simp
   clear HOB
   have fl:=(HS.out p HPM.out).files
   go_wp2_with fail
   go_loopw [7] (fun i wr=>∃ m:Nat,m≤p.files.length∧i=.int .i64 m∧Hid (∀ y∈p.files.take m,conf (l.take k) y=false)∧Hid (RC w wr)) (fun i _=>p.files.length-(intOf i).toNat)
   case atStart=>exact⟨0,z0,rfl,by simp[Hid],HR2⟩
   case round=>
    clear HR HR2
    obtain⟨m,hm,rfl,HN,HR⟩:=hrel
    obtain⟨b1,off1,hA1,he1⟩:=(HD.out.row.below HR.out.bel).elem pk_len k p HP.out
    obtain⟨rfl,rfl⟩:b=b1∧off=off1:=by have:=HA.out;rw[hA1] at this;injection this with this;injection this with h1 h2 _;exact⟨h1.symm,h2.symm⟩
    have e7:=he1 7 _ rfl
    clear he1 hA1
    by_cases hml:m<p.files.length
    ·obtain⟨x,hx⟩:∃ x,p.files[m]?=some x:=⟨_,gG hml⟩
     obtain⟨b',off',hA',he'⟩:=((HD.out.all p HPM.out).below HR.out.bel).files.elem file_len m x hx
     obtain⟨f0,f1,f2,f3,f4,f5,f6,f7⟩:=eight he'
     have hix':=fun W=>idx_of (T:=24) (E:=46) (sz:=8) (c:=p.fc) Tryz.underlying24 rfl Tryz.sizeOf46 hA' hml W
     have HX:=hid hx
     clear hx hA' he'
     have R3:=hid (HR.out.alloc (.cells #[.string x.path,.int .i64 x.kind,.int .i64 x.mode,.string x.owner,.string x.group,.string x.link,.string x.sum,.bool x.conf] 46))
     have K3:=hid (Blk.new wr x.cells 46)
     obtain⟨W3,hW3⟩:∃ W3,wr.alloc (.cells #[.string x.path,.int .i64 x.kind,.int .i64 x.mode,.string x.owner,.string x.group,.string x.link,.string x.sum,.bool x.conf] 46)=W3:=⟨_,rfl⟩
     have R3':Hid (RC w W3):=by show RC w W3;rw[←hW3];exact R3.out
     have K3':Hid (Blk W3 wr.heap.size x.cells):=by show Blk W3 _ _;rw[←hW3];exact K3.out
     clear R3 K3
     go_wp2_with fail
     clear hW3 f0 f1 f2 f3 f4 f5 f6 f7 e7 hix'
     generalize hxb:wr.heap.size=xb at *
     have HXB:=hid hxb;clear hxb
     go_loopw [9] (fun i wr=>∃ j:Nat,j≤k∧i=.int .i64 j∧Hid (∀ q∈l.take j,clash q x=false)∧Hid (RC w wr)∧Hid (Blk wr xb x.cells)) (fun i _=>k-(intOf i).toNat)
     case atStart=>exact⟨0,z0,rfl,by simp[Hid],R3',K3'⟩
     case round=>
      clear R3' K3' HR HXB
      obtain⟨j,hj,rfl,HJ,HR,HK⟩:=hrel
      by_cases hjk:j<k
      ·obtain⟨q,hq⟩:∃ q,l[j]?=some q:=⟨_,gG (by omega)⟩
       have HQM:=hid (gM hq)
       have HQ2:=hid hq
       obtain⟨b1,off1,hA1,he1⟩:=(HD.out.row.below HR.out.bel).elem pk_len j q hq
       obtain⟨rfl,rfl⟩:b=b1∧off=off1:=by have:=HA.out;rw[hA1] at this;injection this with this;injection this with h1 h2 _;exact⟨h1.symm,h2.symm⟩
       have g7:=he1 7 _ rfl
       have hixj:=fun W=>idx_of (T:=40) (E:=27) (sz:=9) (c:=c) Tryz.underlying40 rfl Tryz.sizeOf27 hA1 (show j<l.length by omega) W
       have x0:=HK.out.cell 0 _ rfl
       clear he1 hA1 hq
       have hfl:=(HS.out q HQM.out).files
       have HFI:=hid (findN_is q.files x.path)
       have HFN:=hid fun (W:World) (h:q.ok W)=>ref_FindN q.fa q.fc q.files x.path W h.files (by have:=hfl;omega)
       generalize findN q.files x.path=n at *
       have hlo:-1≤n:=by rcases HFI.out with⟨rfl,_⟩ | ⟨a,f,rfl,_⟩<;>omega
       have hhi:n≤1000000:=by rcases HFI.out with⟨rfl,_⟩ | ⟨a,f,rfl,hf,_⟩<;>first | omega | (have:=(gS hf).1;omega)
       have QK:=hid ((HD.out.all q HQM.out).below HR.out.bel)
       go_wp2_with fail
       go_quiet ((go_at_call 42;exact Calls.quiet_of_same (HFN.out _ (QK.out.below (below_drewN bR _)))))
       by_cases hn:n<0
       ·have q1:decide (0≤n)=false:=dF (by omega)
        have CL:Hid (clash q x=false):=clash_none HFI.out hn
        clear hn g7 x0 hixj
        go_wp2_with fail
        go_quiet (fail)
        go_wp2_with fail
        go_roundw
        case rel=>exact⟨j+1,by omega,by go_num,hid (fun z hz=>by
         obtain⟨hk',hf'⟩:=gS HQ2.out
         rw[tS hk',hf'] at hz
         rcases List.mem_append.1 hz with hz | hz
         ·exact HJ.out z hz
         ·rw[List.mem_singleton.1 hz];exact CL.out),hid (HR.out.step (below_drewN bR _)),hid (HK.out.drewN _)⟩
        case measure=>simp[intOf];omega
       ·obtain⟨a,y,rfl,hal,hy⟩:=find_lt HFI.out (by omega)
        have q1:decide (0≤(a:Int))=true:=dT (by omega)
        have CL:Hid (clash q x=!alikeB y x):=clash_some HFI.out hy
        obtain⟨b4,off4,hA4,he4⟩:=QK.out.files.elem file_len a y hy
        obtain⟨y0,y1,y2,y3,y4,y5,y6,y7⟩:=eight he4
        have hixy:=fun W=>idx_of (T:=24) (E:=46) (sz:=8) (c:=q.fc) Tryz.underlying24 rfl Tryz.sizeOf46 hA4 hal W
        have x1:=HK.out.cell 1 _ rfl
        have x2:=HK.out.cell 2 _ rfl
        have x3:=HK.out.cell 3 _ rfl
        have x4:=HK.out.cell 4 _ rfl
        have x5:=HK.out.cell 5 _ rfl
        have x6:=HK.out.cell 6 _ rfl
        have x7:=HK.out.cell 7 _ rfl
        have bl1:b<wr.heap.size:=World.block_lt_of_cell? _ _ g7
        have bl4:b4<wr.heap.size:=World.block_lt_of_cell? _ _ y0
        have blx:xb<wr.heap.size:=HK.out.sz
        clear hn he4 hA4 hy
        go_upto_region 21 with(fail)
        go_cut [105] (fun s105 wx=>s105=.bool (clash q x)∧Hid (RC w wx)∧Hid (Blk wx xb x.cells))
        case first=>
         obtain⟨v,hxy⟩:∃ v,alikeB y x=v:=⟨_,rfl⟩
         have HXY:=hid hxy;clear hxy
         go_region_held3 (fun w'=>w'.cell? ⟨b,off+j*9+7,none⟩=some (.slice q.fa q.files.length q.fc)∧w'.cell? ⟨b4,off4+a*8,none⟩=some (.string y.path)∧w'.cell? ⟨b4,off4+a*8+1,none⟩=some (.int .i64 y.kind)∧w'.cell? ⟨b4,off4+a*8+2,none⟩=some (.int .i64 y.mode)∧w'.cell? ⟨b4,off4+a*8+3,none⟩=some (.string y.owner)∧w'.cell? ⟨b4,off4+a*8+4,none⟩=some (.string y.group)∧w'.cell? ⟨b4,off4+a*8+5,none⟩=some (.string y.link)∧w'.cell? ⟨b4,off4+a*8+6,none⟩=some (.string y.sum)∧w'.cell? ⟨b4,off4+a*8+7,none⟩=some (.bool y.conf)∧w'.cell? ⟨xb,0,none⟩=some (.string x.path)∧w'.cell? ⟨xb,1,none⟩=some (.int .i64 x.kind)∧w'.cell? ⟨xb,2,none⟩=some (.int .i64 x.mode)∧w'.cell? ⟨xb,3,none⟩=some (.string x.owner)∧w'.cell? ⟨xb,4,none⟩=some (.string x.group)∧w'.cell? ⟨xb,5,none⟩=some (.string x.link)∧w'.cell? ⟨xb,6,none⟩=some (.string x.sum)∧w'.cell? ⟨xb,7,none⟩=some (.bool x.conf))
          (first
            | go_keep
            | exact⟨(hb4.cell (p:=⟨_,_,none⟩) bl1).trans g7,(hb4.cell (p:=⟨_,_,none⟩) bl4).trans y0,(hb4.cell (p:=⟨_,_,none⟩) bl4).trans y1,(hb4.cell (p:=⟨_,_,none⟩) bl4).trans y2,(hb4.cell (p:=⟨_,_,none⟩) bl4).trans y3,(hb4.cell (p:=⟨_,_,none⟩) bl4).trans y4,(hb4.cell (p:=⟨_,_,none⟩) bl4).trans y5,(hb4.cell (p:=⟨_,_,none⟩) bl4).trans y6,(hb4.cell (p:=⟨_,_,none⟩) bl4).trans y7,(hb4.cell (p:=⟨_,_,none⟩) blx).trans x0,(hb4.cell (p:=⟨_,_,none⟩) blx).trans x1,(hb4.cell (p:=⟨_,_,none⟩) blx).trans x2,(hb4.cell (p:=⟨_,_,none⟩) blx).trans x3,(hb4.cell (p:=⟨_,_,none⟩) blx).trans x4,(hb4.cell (p:=⟨_,_,none⟩) blx).trans x5,(hb4.cell (p:=⟨_,_,none⟩) blx).trans x6,(hb4.cell (p:=⟨_,_,none⟩) blx).trans x7⟩)
          (first
            | (go_at_call 43;refine(ref_alike y x _).mono ?_;rintro e w4 ⟨rfl,hb4⟩;rw[HXY.out]))
         all_goals
          have HB4:Hid (Below wr.heap.size wr w4):=bthen (below_drew (below_drewN bR nq)) hb4
          have R4:=hid (HR.out.step HB4.out)
          have K4:=hid (HK.out.below HB4.out)
          go_wp2_with fail
          go_meet
          exact⟨by rw[CL.out,HXY.out],R4,K4⟩
        case rest=>
        obtain⟨rfl,R4,K4⟩:=hcut
        clear y0 y1 y2 y3 y4 y5 y6 y7 hixy x0 x1 x2 x3 x4 x5 x6 x7 g7 hixj CL HR HK
        cases hcl:clash q x
        case true=>
         have HCL:=hid hcl;clear hcl
         have HC:Hid (conf (l.take k) x=true):=by
          show _=_
          unfold conf;rw[List.any_eq_true]
          obtain⟨hk',hf'⟩:=gS HQ2.out
          refine⟨q,?_,HCL.out⟩
          have:(l.take k)[j]?=some q:=by rw[List.getElem?_take_of_lt hjk];exact HQ2.out
          exact gM this
         have E:Hid (dbE (pkAll fmt) [] l=(p.nm,x.path,8)):=by
          have h1:=pkE_conf (ans:=pkAll fmt p) A0.out HO.out HX.out HN.out HC.out
          show _=_
          rw[dbE_bad HP.out HE.out (by rw[h1];simp),h1]
         obtain⟨b1,off1,hA1,he1⟩:=(HD.out.row.below R4.out.bel).elem pk_len k p HP.out
         obtain⟨rfl,rfl⟩:b=b1∧off=off1:=by have:=HA.out;rw[hA1] at this;injection this with this;injection this with h1 h2 _;exact⟨h1.symm,h2.symm⟩
         have e0:=he1 0 _ rfl
         simp only[Nat.add_zero] at e0
         have x0:=K4.out.cell 0 _ rfl
         obtain⟨r0,r1,r2,fr0,fr1,fr2⟩:=R4.out.six
         clear he1 hA1
         go_wp2_with fail
         go_region
         go_wp2_with fail
         refine bodyPost_ret (v:=.agg #[.string p.nm,.string x.path,.int .i64 8]) (by simp[results,Tryz.results20,go_sem,r0,r1,r2]) rfl ?_
         exact⟨by rw[E.out];rfl,(R4.out.done _ _ _).drew⟩
        case false=>
         have HCL:=hid hcl;clear hcl
         go_wp2_with fail
         go_roundw
         case rel=>exact⟨j+1,by omega,by go_num,hid (fun z hz=>by
          obtain⟨hk',hf'⟩:=gS HQ2.out
          rw[tS hk',hf'] at hz
          rcases List.mem_append.1 hz with hz | hz
          ·exact HJ.out z hz
          ·rw[List.mem_singleton.1 hz];exact HCL.out),R4,K4⟩
         case measure=>simp[intOf];omega
      ·have CN:Hid (conf (l.take k) x=false):=by
        show _=_
        unfold conf;rw[List.any_eq_false]
        intro q hq hc
        have:j=k:=by omega
        subst this
        rw[HJ.out q hq] at hc;cases hc
       go_wp2_with fail
       go_roundw
       case rel=>exact⟨m+1,by omega,by go_num,hid (fun z hz=>by
        obtain⟨hk',hf'⟩:=gS HX.out
        rw[tS hk',hf'] at hz
        rcases List.mem_append.1 hz with hz | hz
        ·exact HN.out z hz
        ·rw[List.mem_singleton.1 hz];exact CN.out),HR⟩
       case measure=>simp[intOf];omega
    ·have F:Hid ((pkE (pkAll fmt p) (l.take k) p).2.2=0):=by
      show _=_
      rw[pkE_fine A0.out HO.out (fun y hy=>HN.out y (by rw[tL (by omega)];exact hy))]
     go_wp2_with fail
     go_roundw
     case rel=>exact⟨k+1,by omega,by go_num,hid (dbE_next HP.out HE.out F.out),HR⟩
     case measure=>simp[intOf];omega
  ·have E:=hid (dbE_end (ans:=pkAll fmt) (l:=l) (k:=k) (by omega) HE.out)
   obtain⟨r0,r1,r2,fr0,fr1,fr2⟩:=HR.out.six
   go_wp2_with fail
   exact bodyPost_ret (rc_res HR.out rfl _ _ _) rfl ⟨by rw[E.out];rfl,HR.out.done _ _ _⟩
end
end Go.Proofs.YtdfdllbebfoggaaGreatDoor
