/- A part of the proof of a law on dependencies in three formats. No condition. -/
import Derived.Test.YtkjdbpjglobbjaaGreatDoorE09
import Derived.Test.YtkjdbpjglobbjaaGreatDoorE23
set_option maxRecDepth 100000
set_option maxHeartbeats 20000000
set_option linter.unusedVariables false
set_option linter.unusedSimpArgs false
namespace Go.Proofs.YtkjdbpjglobbjaaGreatDoor
section
open Go.RowKit Go.Deep
theorem Rv (c:UInt8):(bl je).contains c=zB c:=by
 have:=dV (fun c=>(bl je).contains c==zB c) (by kernel_rfl) c
 simpa using this
theorem AM:∀ l:LU,(0≤Lib.indexAny l (bl je)→Lib.indexAny l (bl je)=au jS l)∧(Lib.indexAny l (bl je)<0→au jS l=l.length)
 | []=>⟨fun h=>by simp[Lib.indexAny] at h,fun _=>rfl⟩
 | b::l=>by
  obtain⟨h1,h2⟩:=AM l
  have hge:=Lib.indexAny_ge (bl je) l
  unfold Lib.indexAny
  rw[Rv]
  cases hb:zB b with
  | true=>exact⟨fun _=>by simp[au,jS,hb],fun h=>by simp at h⟩
  | false=>
   have hr:au jS (b::l)=au jS l+1:=jy (by simp[jS,hb])
   rw[hr]
   simp only[Bool.false_eq_true,if_false,beq_iff_eq]
   split
   ·rename_i h;exact⟨fun h=>by simp at h,fun _=>by rw[h2 (by omega)];rfl⟩
   ·rename_i h;exact⟨fun _=>by rw[h1 (by omega)];push_cast;rfl,fun hh=>by omega⟩
theorem Fq (l:LU):Lib.hasPrefix l [33]=aE 33 l:=by
 cases l with
 | nil=>rfl
 | cons a r=>rw[nA];simp only[aE];rw[Bool.beq_comm]
theorem AN (l:LU):Lib.trimPrefix l [33]=cS l:=by
 unfold Lib.trimPrefix cS
 rw[Fq];rfl
theorem OJ (l:LU):(cS l).length≤l.length:=by unfold cS;split<;>simp
theorem Rw (l:LU):(uh l).2.length≤l.length:=by rw[←AD];exact wJ l 7
def dR.val (x:dR):Value:=.agg #[.bool x.no,.string (bz x.name),.int .i64 x.op,.string (bz x.ver)]
def AO:Value:=.agg #[.bool false,.string ⟨#[]⟩,.int .i64 0,.string ⟨#[]⟩]
def gR:List Value:=[.bool false,.string ⟨#[]⟩,.int .i64 0,.string ⟨#[]⟩]
def OL (r:Option dR)(w:World)(e:Ending)(w':World):Prop:=
 (match r with
  | some x=>e=.returned (.tuple #[x.val,.nilIface])
  | none=>∃ a c:Int,c≠0∧e=.returned (.tuple #[AO,.iface 200 (.agg #[.int .i64 a,.int .i64 c])]))∧Below w.heap.size w w'
theorem In (s:BA)(w:World)(hG:Gl w)(hs:s.size≤4294967280):
  Calls Tryz.prog 89 #[.string s] w (OL (gJ (bl s)) w):=by
 have HG:=ae hG;clear hG
 obtain⟨R,hR⟩:∃ R,bz (cS (bl s))=R:=⟨_,rfl⟩
 have hRb:bl R=cS (bl s):=by rw[←hR,cH]
 have hRz:R.size≤s.size:=by rw[←af,←af,hRb];exact OJ _
 obtain⟨n,hn⟩:∃ n,au jS (bl R)=n:=⟨_,rfl⟩
 have hnz:n≤R.size:=by rw[←hn,←af];exact cJ _ _
 obtain⟨i1,i2⟩:=AM (bl R)
 rw[hn] at i1 i2
 rw[af] at i2
 have hcp:=fun W=>Ru s ⟨#[33]⟩ W
 have e33:bl ⟨#[33]⟩=[33]:=rfl
 rw[e33,AN,Fq,hR] at hcp
 generalize hq:aE 33 (bl s)=q at hcp
 go_enter Tryz.func89,Tryz.ntmps89
 go_wp2_with fail
 refine(hcp _).mono ?_;rintro e w' ⟨rfl,rfl⟩
 go_wp2_with fail
 refine(Da R _ (by omega)).mono ?_;rintro e w1 ⟨rfl,hb1⟩
 generalize Lib.indexAny (bl R) (bl je)=ia at i1 i2
 have BB:Hid (Below w.heap.size w w1):=((bR.alloc lr _).alloc (by simp) _).trans (hb1.mono (by simp;omega))
 have KA:Hid (aF w1 w.heap.size gR):=((aF.new w gR _).alloc _).below hb1
 have KB:Hid (aF w1 (w.heap.size+1) [.bool q,.string ⟨#[]⟩,.int .i64 0,.string ⟨#[]⟩]):=(by have:=aF.new (w.alloc (.cells #[.bool false,.string ⟨#[]⟩,.int .i64 0,.string ⟨#[]⟩] 86)) [.bool q,.string ⟨#[]⟩,.int .i64 0,.string ⟨#[]⟩] 86;simpa using this:aF _ (w.heap.size+1) _).below hb1
 clear hb1
 go_upto_if 19 with(fail)
 go_cut [7] (fun v wx=>v=.int .i64 n∧w1=wx)
 case first=>
  by_cases hia:0≤ia
  ·have e1:=i1 hia
   have hia2:¬ ia<0:=by omega
   clear i1 i2
   go_wp2_with fail
   go_meet
   exact⟨rfl,rfl⟩
  ·have hia2:ia<0:=by omega
   have e1:=i2 hia2
   clear i1 i2 hia
   go_wp2_with fail
   go_meet
   exact⟨by rw[e1],rfl⟩
 case rest=>
 obtain⟨rfl,rfl⟩:=hcut
 clear i1 i2
 have hnz2:(n:Int)≤(R.size:Int):=by omega
 have c1:=KB.out.cell 1 _ rfl
 have fc1:=KB.out.free 1 (by simp)
 obtain⟨P,hP⟩:∃ P,R.extract 0 n=P:=⟨_,rfl⟩
 obtain⟨T,hT⟩:∃ T,R.extract n R.size=T:=⟨_,rfl⟩
 have hPb:bl P=(bl R).take n:=by rw[←hP,bV]
 have hTb:bl T=(bl R).drop n:=by rw[←hT,aX]
 have hPz:P.size=n:=by rw[←af,hPb,List.length_take,af];omega
 have hTz:T.size=R.size-n:=by rw[←af,hTb,List.length_drop,af]
 have WA:Hid (gJ (bl s)=if eB (bl P) then AA q (bl P) (bl T) else none):=by
  show _=_;unfold gJ;rw[←hRb,hn,hq,←hPb,←hTb]
 clear hPb hTb hRb hn hq hR hcp e33
 go_wp2_with fail
 go_region
 clear c1 fc1
 have c1:=(KB.out.set 1 (by simp) (.string P)).drew.cell 1 _ rfl
 go_wp2_with fail
 refine(Ax P _ (by omega)).mono ?_;rintro e w2 ⟨rfl,hw⟩
 have KA2:Hid (aF w2 w.heap.size gR):=by rw[←hw];exact(KA.out.far (by omega) _).drew
 have KB2:Hid (aF w2 (w.heap.size+1) [.bool q,.string P,.int .i64 0,.string ⟨#[]⟩]):=by rw[←hw];exact(KB.out.set 1 (by simp) (.string P)).drew
 have BB2:Hid (Below w.heap.size w w2):=by rw[←hw];exact(aw BB.out (by omega) _).drew
 clear hw c1 hP hT
 cases hnm:eB (bl P) with
 | false=>
  have E:Hid (gJ (bl s)=none):=by show _=_;rw[WA.out,hnm];rfl
  clear hnm
  have a0:=KA2.out.cell 0 _ rfl
  have fa0:=KA2.out.free 0 (by simp[gR])
  have a1:=KA2.out.cell 1 _ rfl
  have fa1:=KA2.out.free 1 (by simp[gR])
  have a2:=KA2.out.cell 2 _ rfl
  have fa2:=KA2.out.free 2 (by simp[gR])
  have a3:=KA2.out.cell 3 _ rfl
  have fa3:=KA2.out.free 3 (by simp[gR])
  go_wp2_with fail
  refine bodyPost_ret (v:=.tuple #[AO,.iface 200 (.agg #[.int .i64 _,.int .i64 10])]) (by simp[results,Tryz.results89,go_sem,AO,a0,a1,a2,a3];rfl) rfl ?_
  refine⟨by rw[E.out];exact⟨_,10,by decide,rfl⟩,?_⟩
  exact aw (aw (aw (aw BB2.out lr _) lr _) lr _) lr _
 | true=>
  have E1:Hid (gJ (bl s)=AA q (bl P) (bl T)):=by show _=_;rw[WA.out,hnm];rfl
  clear hnm
  by_cases hT0:T.size=0
  ·have he:T.toList=[]:=by rw[ai,bj T hT0]
   have he2:T.toList.isEmpty=true:=by rw[he];rfl
   have E:Hid (gJ (bl s)=some ⟨q,bl P,0,[]⟩):=by show _=_;rw[E1.out,bj T hT0];rfl
   have a0:=KA2.out.cell 0 _ rfl
   have fa0:=KA2.out.free 0 (by simp[gR])
   have a1:=KA2.out.cell 1 _ rfl
   have fa1:=KA2.out.free 1 (by simp[gR])
   have a2:=KA2.out.cell 2 _ rfl
   have fa2:=KA2.out.free 2 (by simp[gR])
   have a3:=KA2.out.cell 3 _ rfl
   have fa3:=KA2.out.free 3 (by simp[gR])
   have c0:=KB2.out.cell 0 _ rfl
   have fc0:=KB2.out.free 0 (by simp)
   have c1:=KB2.out.cell 1 _ rfl
   have fc1:=KB2.out.free 1 (by simp)
   have c2:=KB2.out.cell 2 _ rfl
   have fc2:=KB2.out.free 2 (by simp)
   have c3:=KB2.out.cell 3 _ rfl
   have fc3:=KB2.out.free 3 (by simp)
   go_wp2_with fail
   refine bodyPost_ret (v:=.tuple #[.agg #[.bool q,.string P,.int .i64 0,.string ⟨#[]⟩],.nilIface]) (by simp[results,Tryz.results89,go_sem,a0,a1,a2,a3]) rfl ?_
   refine⟨by rw[E.out];simp only[dR.val,iP];rfl,?_⟩
   exact aw (aw (aw (aw BB2.out lr _) lr _) lr _) lr _
  ·have he2:T.toList.isEmpty=false:=by rw[ai,aL];exact dF hT0
   have he:¬ T.toList=[]:=by intro h;rw[h] at he2;simp at he2
   go_wp2_with fail
   refine(zK T _ (HG.out.below BB2.out) (by omega)).mono ?_;rintro e w3 ⟨rfl,rfl⟩
   obtain⟨V,hV⟩:∃ V,bz (uh (bl T)).2=V:=⟨_,rfl⟩
   have hVz:V.size≤T.size:=by rw[←hV,bQ,←af];exact Rw _
   have E2:Hid (gJ (bl s)=if aV 3 V=0 then some ⟨q,bl P,(uh (bl T)).1,bl V⟩ else none):=by
    show _=_;rw[E1.out];unfold AA;rw[hV,if_neg (by rw[aL];simpa using hT0),←hV,cH]
   generalize (uh (bl T)).1=o at E2
   have c0:=KB2.out.cell 0 _ rfl
   have fc0:=KB2.out.free 0 (by simp)
   have c1:=KB2.out.cell 1 _ rfl
   have fc1:=KB2.out.free 1 (by simp)
   have c2:=KB2.out.cell 2 _ rfl
   have fc2:=KB2.out.free 2 (by simp)
   have c3:=KB2.out.cell 3 _ rfl
   have fc3:=KB2.out.free 3 (by simp)
   go_wp2_with fail
   have B3:=ae ((aw (j:=3) (aw (j:=2) BB2.out (Nat.le_succ _) (.int .i64 o)) (Nat.le_succ _) (.string V)))
   refine(bh 3 V _ (HG.out.below (by exact B3.out)) (by omega)).mono ?_;rintro e w4 ⟨rfl,hb4⟩
   have KA4:Hid (aF w4 w.heap.size gR):=((KA2.out.far (by omega) _).far (by omega) _).below hb4
   have KB4:Hid (aF w4 (w.heap.size+1) [.bool q,.string P,.int .i64 o,.string V]):=((KB2.out.set 2 (by simp) (.int .i64 o)).set 3 (by simp) (.string V)).below hb4
   have BB4:Hid (Below w.heap.size w w4):=ah B3.out hb4
   clear hb4
   clear c0 fc0 c1 fc1 c2 fc2 c3 fc3
   have a0:=KA4.out.cell 0 _ rfl
   have fa0:=KA4.out.free 0 (by simp[gR])
   have a1:=KA4.out.cell 1 _ rfl
   have fa1:=KA4.out.free 1 (by simp[gR])
   have a2:=KA4.out.cell 2 _ rfl
   have fa2:=KA4.out.free 2 (by simp[gR])
   have a3:=KA4.out.cell 3 _ rfl
   have fa3:=KA4.out.free 3 (by simp[gR])
   have c0:=KB4.out.cell 0 _ rfl
   have fc0:=KB4.out.free 0 (by simp)
   have c1:=KB4.out.cell 1 _ rfl
   have fc1:=KB4.out.free 1 (by simp)
   have c2:=KB4.out.cell 2 _ rfl
   have fc2:=KB4.out.free 2 (by simp)
   have c3:=KB4.out.cell 3 _ rfl
   have fc3:=KB4.out.free 3 (by simp)
   by_cases hv:aV 3 V=0
   ·have E:Hid (gJ (bl s)=some ⟨q,bl P,o,bl V⟩):=by show _=_;rw[E2.out,if_pos hv]
    have hv2:(aV 3 V != 0)=false:=by simp[hv]
    clear hv
    go_wp2_with fail
    refine bodyPost_ret (v:=.tuple #[.agg #[.bool q,.string P,.int .i64 o,.string V],.nilIface]) (by simp[results,Tryz.results89,go_sem,a0,a1,a2,a3]) rfl ?_
    refine⟨by rw[E.out];simp only[dR.val,iP],?_⟩
    exact aw (aw (aw (aw BB4.out lr _) lr _) lr _) lr _
   ·have E:Hid (gJ (bl s)=none):=by show _=_;rw[E2.out,if_neg hv]
    have hv2:(aV 3 V != 0)=true:=by simp[hv]
    have HV:=zz.mk hv
    clear hv
    go_wp2_with fail
    go_region
    go_wp2_with fail
    refine bodyPost_ret (v:=.tuple #[AO,.iface 200 (.agg #[.int .i64 _,.int .i64 (aV 3 V)])]) (by simp[results,Tryz.results89,go_sem,AO,a0,a1,a2,a3];rfl) rfl ?_
    refine⟨by rw[E.out];exact⟨_,_,HV.out,rfl⟩,?_⟩
    exact(aw (aw (aw (aw BB4.out lr _) lr _) lr _) lr _).drew
theorem iR {w:World}{base b j:Nat}{e:TypeId}{size n c:Nat}{A:Option Addr}{xs:List Value}{v:Value}(h:w.ownsRow base e size (.slice A n c) n xs)(hb:b<base):(w.setCell ⟨b,j,none⟩ v).ownsRow base e size (.slice A n c) n xs:=by
 have hg:w.grownBy (w.setCell ⟨b,j,none⟩ v) (some b):=aU (World.grownBy.refl w (some b)) (.inl rfl) _
 refine h.kept hg ?_
 cases hq:(Value.slice A n c).ownBlock with
 | none=>exact .inl rfl
 | some q=>right;intro he;injection he with he;have:=(h.lt q hq).1;omega
theorem Iy (s:BA)(w:World)(hG:NY w)(hs:s.size≤4294967280):
  Calls Tryz.prog 55 #[.string s] w (Ix (eR (bl s)) w):=by
 obtain⟨i0,hi0,hz0,hz1,hz2⟩:=info_parts AP
 have HG:=ae hG;clear hG
 go_enter Tryz.func55,Tryz.ntmps55
 go_wp2_with fail
 go_loopw [4,5] (fun l p wr=>∃ (L:List dR) (A:Option Addr) (n c k f:Nat),l=.slice A n c∧p=.int .i64 k∧k≤s.size∧n≤64∧Hid (zL w wr L A n c)∧Hid (eR (bl s)=nz (f+1) L ((bl s).drop k))∧Hid (s.size-k≤f)) (fun _ p _=>s.size-(intOf p).toNat)
 case atStart=>exact⟨[],none,0,0,0,s.size,rfl,rfl,z0,by omega,zL.start w,by show _=_;rw[List.drop_zero,←af];exact If _,lr⟩
 case round=>
  obtain⟨L,A,n,c,k,f,rfl,rfl,hk,hn,HR,HN,HF⟩:=hrel
  by_cases hlt:k<s.size
  ·have HD:Hid ((bl s).drop k=s[k]::(bl s).drop (k+1)):=by
    show _=_;rw[List.drop_eq_getElem_cons (by rw[af];exact hlt),gL s k hlt]
   obtain⟨d,hd⟩:∃ d:UInt8,s[k]=d:=⟨_,rfl⟩
   rw[hd] at HD
   by_cases hd32:d.toNat=32
   ·have hdd:d=32:=UInt8.toNat_inj.1 hd32
    have HN2:Hid (eR (bl s)=nz (f+1) L ((bl s).drop (k+1))):=by show _=_;rw[HN.out,HD.out,hdd,Ig]
    have HF2:Hid (s.size-(k+1)≤f):=by have:=HF.out;show _≤_;omega
    clear hdd
    go_wp2_with fail
    go_roundw
    case rel=>exact⟨L,A,n,c,k+1,f,rfl,by go_num,by omega,hn,HR,HN2,HF2⟩
    case measure=>simp[intOf];omega
   ·obtain⟨R,hR⟩:∃ R,s.extract k s.size=R:=⟨_,rfl⟩
    have hRb:bl R=(bl s).drop k:=by rw[←hR,aX]
    have hRz:R.size=s.size-k:=by rw[←af,hRb,List.length_drop,af]
    obtain⟨Wd,hWd⟩:∃ Wd,io R ⟨#[32]⟩=Wd:=⟨_,rfl⟩
    have hWb:bl Wd=((bl s).drop k).take (au dW ((bl s).drop k)):=by
     rw[←hWd,←hRb,←Rz];unfold io;rw[gI];rfl
    have hink:dW (((bl s).drop k).headD 32)=true:=by
     rw[HD.out];simp only[List.headD_cons,dW];simp;intro e;exact hd32 (by rw[e];rfl)
    have hWz:Wd.size=au dW ((bl s).drop k):=by
     rw[←af,hWb,List.length_take];have:=cJ dW ((bl s).drop k);omega
    have hWp:0<Wd.size:=by
     rw[hWz,HD.out]
     have:dW d=true:=by rw[HD.out] at hink;exact hink
     simp[au,this]
    have hWl:Wd.size≤s.size-k:=by
     rw[hWz];have:=cJ dW ((bl s).drop k);rw[List.length_drop,af] at this;exact this
    have HK:=ae hink
    have HWB:=ae hWb
    have HWZ:=ae hWz
    clear hink hWb hWz hRb
    have hkk:(k:Int)≤(s.size:Int):=by omega
    go_wp2_with fail
    refine(cm R ⟨#[32]⟩ _ (HG.out.1.below HR.out.bel) (by omega)).mono ?_;rintro e w1 ⟨rfl,hb1⟩
    rw[hWd]
    have HR1:=ae (HR.out.below hb1)
    clear hb1 hWd hR
    by_cases h64:n=64
    ·have E:Hid (eR (bl s)=none):=by
      show _=_;rw[HN.out];exact Ih HK.out (by rw[HR1.out.len];exact h64)
     have h64':((n:Int)==64)=true:=by simp;omega
     have r0:=HR1.out.ret.cell 0 _ rfl
     have r1:=HR1.out.ret.cell 1 _ rfl
     have r2:=HR1.out.ret.cell 2 _ rfl
     have fr0:=HR1.out.ret.free 0 (by simp)
     have fr1:=HR1.out.ret.free 1 (by simp)
     have fr2:=HR1.out.ret.free 2 (by simp)
     go_wp2_with fail
     refine bodyPost_ret (v:=.tuple #[.slice none 0 0,.agg #[.string ⟨#[]⟩,.int .i64 k,.int .i64 4]]) (by simp[results,Tryz.results55,go_sem,r0,r1,r2]) rfl ?_
     refine⟨none,0,0,⟨#[]⟩,k,4,rfl,?_,by rw[E.out];exact⟨by decide,rfl,rfl⟩⟩
     exact aw (aw (aw HR1.out.bel lr _) lr _) lr _
    have h64':((n:Int)==64)=false:=by simp;omega
    go_wp2_with fail
    refine(In Wd _ (HG.out.1.below HR1.out.bel) (by omega)).mono ?_;rintro e w2 ⟨hpost,hb2⟩
    have HR2:=ae (HR1.out.below hb2)
    clear hb2
    cases hw:gJ (bl Wd) with
    | none=>
     rw[hw] at hpost
     obtain⟨a,y,hy,rfl⟩:=hpost
     have E:Hid (eR (bl s)=none):=by
      show _=_;rw[HN.out];exact Lx HK.out (by rw[←HWB.out];exact hw)
     have HY:=zz.mk hy
     clear hw hy
     unfold AO
     go_wp2_with fail
     have HR3:=ae (HR2.out.below (bR.alloc lr (.cells #[.bool false,.string ⟨#[]⟩,.int .i64 0,.string ⟨#[]⟩] 86)))
     refine(Dd a y k _ (HG.out.below HR3.out.bel)).mono ?_;rintro e w4 ⟨⟨q,rfl⟩,hb4⟩
     have HR4:=ae (HR3.out.below hb4)
     clear hb4
     have r0:=HR4.out.ret.cell 0 _ rfl
     have r1:=HR4.out.ret.cell 1 _ rfl
     have r2:=HR4.out.ret.cell 2 _ rfl
     have fr0:=HR4.out.ret.free 0 (by simp)
     have fr1:=HR4.out.ret.free 1 (by simp)
     have fr2:=HR4.out.ret.free 2 (by simp)
     unfold gB
     go_wp2_with fail
     refine bodyPost_ret (v:=.tuple #[.slice none 0 0,.agg #[.string ⟨#[]⟩,.int .i64 q,.int .i64 y]]) (by simp[results,Tryz.results55,go_sem,r0,r1,r2]) rfl ?_
     refine⟨none,0,0,⟨#[]⟩,q,y,rfl,?_,by rw[E.out];exact⟨HY.out,rfl,rfl⟩⟩
     exact aw (aw (aw HR4.out.bel lr _) lr _) lr _
    | some x=>
     rw[hw] at hpost
     obtain rfl:=hpost
     have HN2:Hid (eR (bl s)=nz (f-1+1) (L++[x]) ((bl s).drop (k+Wd.size))):=by
      have hf:=HF.out
      show _=_
      rw[HN.out,Ly HK.out (by rw[HR2.out.len];exact h64) (by rw[←HWB.out];exact hw),List.drop_drop,HWZ.out,show f-1+1=f by omega]
     have HF2:Hid (s.size-(k+Wd.size)≤f-1):=by have:=HF.out;show _≤_;omega
     clear hw
     unfold dR.val
     go_wp2_with (at_builtin;refine ak _ rfl _ _ _ rfl (w.heap.size+1) 86 i0 _ 4 48 Tryz.underlying71 hi0 hz0 hz1 hz2 rfl (by omega) (.slice A n c) n _ rfl ((HR2.out.row.alloc _).alloc _) (w2.heap.size+1+1) (some ⟨w2.heap.size+1,0,none⟩) 1 1 x.cells rfl (by have:=wR (w2.alloc (.cells x.cells.toArray 86)) 86 (.bool x.no) (.string (bz x.name)) (.int .i64 x.op) (.string (bz x.ver));simpa [dR.cells] using this) (by simp[Value.oneCell',dR.cells]) (by simp only[maxLen];omega) (by omega) (by simp;have:=HR2.out.ret.sz;omega) ?_;intro v1 w3 o1 g1 a1)
     obtain⟨A1,c1,rfl⟩:=aG o1
     have R3:=ae (HR2.out.grow (x:=x) o1 g1)
     clear o1 g1 a1
     go_wp2_with fail
     go_roundw
     case rel=>exact⟨L++[x],A1,n+1,c1,k+Wd.size,f-1,rfl,by go_num,by omega,by omega,R3,HN2,HF2⟩
     case measure=>simp[intOf];omega
  ·have E:Hid (eR (bl s)=some L):=by
    show _=_;rw[HN.out,List.drop_of_length_le (by rw[af];omega),Ot]
   have r0:=HR.out.ret.cell 0 _ rfl
   have r1:=HR.out.ret.cell 1 _ rfl
   have r2:=HR.out.ret.cell 2 _ rfl
   have fr0:=HR.out.ret.free 0 (by simp)
   have fr1:=HR.out.ret.free 1 (by simp)
   have fr2:=HR.out.ret.free 2 (by simp)
   go_wp2_with fail
   refine bodyPost_ret (v:=.tuple #[.slice A n c,.agg #[.string ⟨#[]⟩,.int .i64 0,.int .i64 0]]) (by simp[results,Tryz.results55,go_sem,r0,r1,r2]) rfl ?_
   refine⟨A,n,c,⟨#[]⟩,0,0,rfl,?_,?_⟩
   ·exact aw (aw (aw HR.out.bel lr _) lr _) lr _
   ·rw[E.out]
    exact⟨rfl,HR.out.len.symm,cN (iR (iR (iR HR.out.row (Nat.lt_succ_self _)) (Nat.lt_succ_self _)) (Nat.lt_succ_self _)) (Nat.le_succ _)⟩
end
end Go.Proofs.YtkjdbpjglobbjaaGreatDoor
