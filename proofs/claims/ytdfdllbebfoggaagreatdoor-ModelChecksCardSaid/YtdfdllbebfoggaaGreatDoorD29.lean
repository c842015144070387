/- A part of the proof that ModelChecks holds. No condition. -/
import Derived.Test.YtdfdllbebfoggaaGreatDoorD23
set_option maxRecDepth 100000
set_option maxHeartbeats 20000000
set_option linter.unusedVariables false
set_option linter.unusedSimpArgs false
namespace Go.Proofs.YtdfdllbebfoggaaGreatDoor
section
open Go.RowKit Go.Deep
theorem sgs_rel (c:UInt8):(bl sgs).contains c=relC c:=by
 have:=of_bytes (fun c=>(bl sgs).contains c==relC c) (by kernel_rfl) c
 simpa using this
theorem ixAny_run:∀ l:LU,(0≤Lib.indexAny l (bl sgs)→Lib.indexAny l (bl sgs)=runN nrelC l)∧(Lib.indexAny l (bl sgs)<0→runN nrelC l=l.length)
 | []=>⟨fun h=>by simp[Lib.indexAny] at h,fun _=>rfl⟩
 | b::l=>by
  obtain⟨h1,h2⟩:=ixAny_run l
  have hge:=Lib.indexAny_ge (bl sgs) l
  unfold Lib.indexAny
  rw[sgs_rel]
  cases hb:relC b with
  | true=>exact⟨fun _=>by simp[runN,nrelC,hb],fun h=>by simp at h⟩
  | false=>
   have hr:runN nrelC (b::l)=runN nrelC l+1:=runN_cons_yes (by simp[nrelC,hb])
   rw[hr]
   simp only[Bool.false_eq_true,if_false,beq_iff_eq]
   split
   ·rename_i h;exact⟨fun h=>by simp at h,fun _=>by rw[h2 (by omega)];rfl⟩
   ·rename_i h;exact⟨fun _=>by rw[h1 (by omega)];push_cast;rfl,fun hh=>by omega⟩
theorem bare_has (l:LU):Lib.hasPrefix l [33]=head0 33 l:=by
 cases l with
 | nil=>rfl
 | cons a r=>rw[pre1];simp only[head0];rw[Bool.beq_comm]
theorem bare_trim (l:LU):Lib.trimPrefix l [33]=aBare l:=by
 unfold Lib.trimPrefix aBare
 rw[bare_has];rfl
theorem aBare_le (l:LU):(aBare l).length≤l.length:=by unfold aBare;split<;>simp
theorem aOp_len (l:LU):(aOp l).2.length≤l.length:=by rw[←relUp_all];exact relUp_le l 7
def Wnt.val (x:Wnt):Value:=.agg #[.bool x.no,.string (mkB x.name),.int .i64 x.op,.string (mkB x.ver)]
def wZero:Value:=.agg #[.bool false,.string ⟨#[]⟩,.int .i64 0,.string ⟨#[]⟩]
def wZeros:List Value:=[.bool false,.string ⟨#[]⟩,.int .i64 0,.string ⟨#[]⟩]
def WantPost (r:Option Wnt)(w:World)(e:Ending)(w':World):Prop:=
 (match r with
  | some x=>e=.returned (.tuple #[x.val,.nilIface])
  | none=>∃ a c:Int,c≠0∧e=.returned (.tuple #[wZero,.iface 222 (.agg #[.int .i64 a,.int .i64 c])]))∧Below w.heap.size w w'
theorem adep_parse (s:BA)(w:World)(hG:Gl w)(hs:s.size≤4294967280):
  Calls Tryz.prog 132 #[.string s] w (WantPost (aWant (bl s)) w):=by
 have HG:=hid hG;clear hG
 obtain⟨R,hR⟩:∃ R,mkB (aBare (bl s))=R:=⟨_,rfl⟩
 have hRb:bl R=aBare (bl s):=by rw[←hR,bl_of]
 have hRz:R.size≤s.size:=by rw[←bl_length,←bl_length,hRb];exact aBare_le _
 obtain⟨n,hn⟩:∃ n,runN nrelC (bl R)=n:=⟨_,rfl⟩
 have hnz:n≤R.size:=by rw[←hn,←bl_length];exact runN_le _ _
 obtain⟨i1,i2⟩:=ixAny_run (bl R)
 rw[hn] at i1 i2
 rw[bl_length] at i2
 have hcp:=fun W=>CutP s ⟨#[33]⟩ W
 have e33:bl ⟨#[33]⟩=[33]:=rfl
 rw[e33,bare_trim,bare_has,hR] at hcp
 generalize hq:head0 33 (bl s)=q at hcp
 go_enter Tryz.func132,Tryz.ntmps132
 go_wp2_with fail
 refine(hcp _).mono ?_;rintro e w' ⟨rfl,rfl⟩
 go_wp2_with fail
 refine(IndexAny_rel R _ (by omega)).mono ?_;rintro e w1 ⟨rfl,hb1⟩
 generalize Lib.indexAny (bl R) (bl sgs)=ia at i1 i2
 have BB:Hid (Below w.heap.size w w1):=((bR.alloc lr _).alloc (by simp) _).trans (hb1.mono (by simp;omega))
 have KA:Hid (Blk w1 w.heap.size wZeros):=((Blk.new w wZeros _).alloc _).below hb1
 have KB:Hid (Blk w1 (w.heap.size+1) [.bool q,.string ⟨#[]⟩,.int .i64 0,.string ⟨#[]⟩]):=(by have:=Blk.new (w.alloc (.cells #[.bool false,.string ⟨#[]⟩,.int .i64 0,.string ⟨#[]⟩] 172)) [.bool q,.string ⟨#[]⟩,.int .i64 0,.string ⟨#[]⟩] 172;simpa using this:Blk _ (w.heap.size+1) _).below hb1
 clear hb1
 go_upto_if 19 with(fail)
 go_cut [7] (fun v wx=>v=.int .i64 n∧w1=wx)
 case first=>
  by_cases hia:0≤ia
  ·have e1:=i1 hia
   have hia2:¬ ia<0:=by omega
   clear i1 i2
   go_wp2_with fail
   go_meet
   exact⟨rfl,rfl⟩
  ·have hia2:ia<0:=by omega
   have e1:=i2 hia2
   clear i1 i2 hia
   go_wp2_with fail
   go_meet
   exact⟨by rw[e1],rfl⟩
 case rest=>
 obtain⟨rfl,rfl⟩:=hcut
 clear i1 i2
 have hnz2:(n:Int)≤(R.size:Int):=by omega
 have c1:=KB.out.cell 1 _ rfl
 have fc1:=KB.out.free 1 (by simp)
 obtain⟨P,hP⟩:∃ P,R.extract 0 n=P:=⟨_,rfl⟩
 obtain⟨T,hT⟩:∃ T,R.extract n R.size=T:=⟨_,rfl⟩
 have hPb:bl P=(bl R).take n:=by rw[←hP,bl_take]
 have hTb:bl T=(bl R).drop n:=by rw[←hT,bl_drop]
 have hPz:P.size=n:=by rw[←bl_length,hPb,List.length_take,bl_length];omega
 have hTz:T.size=R.size-n:=by rw[←bl_length,hTb,List.length_drop,bl_length]
 have WA:Hid (aWant (bl s)=if anameB (bl P) then aRest q (bl P) (bl T) else none):=by
  show _=_;unfold aWant;rw[←hRb,hn,hq,←hPb,←hTb]
 clear hPb hTb hRb hn hq hR hcp e33
 go_wp2_with fail
 go_region
 clear c1 fc1
 have c1:=(KB.out.set 1 (by simp) (.string P)).drew.cell 1 _ rfl
 go_wp2_with fail
 refine(adep_Name P _ (by omega)).mono ?_;rintro e w2 ⟨rfl,hw⟩
 have KA2:Hid (Blk w2 w.heap.size wZeros):=by rw[←hw];exact(KA.out.far (by omega) _).drew
 have KB2:Hid (Blk w2 (w.heap.size+1) [.bool q,.string P,.int .i64 0,.string ⟨#[]⟩]):=by rw[←hw];exact(KB.out.set 1 (by simp) (.string P)).drew
 have BB2:Hid (Below w.heap.size w w2):=by rw[←hw];exact(below_set BB.out (by omega) _).drew
 clear hw c1 hP hT
 cases hnm:anameB (bl P) with
 | false=>
  have E:Hid (aWant (bl s)=none):=by show _=_;rw[WA.out,hnm];rfl
  clear hnm
  have a0:=KA2.out.cell 0 _ rfl
  have fa0:=KA2.out.free 0 (by simp[wZeros])
  have a1:=KA2.out.cell 1 _ rfl
  have fa1:=KA2.out.free 1 (by simp[wZeros])
  have a2:=KA2.out.cell 2 _ rfl
  have fa2:=KA2.out.free 2 (by simp[wZeros])
  have a3:=KA2.out.cell 3 _ rfl
  have fa3:=KA2.out.free 3 (by simp[wZeros])
  go_wp2_with fail
  refine bodyPost_ret (v:=.tuple #[wZero,.iface 222 (.agg #[.int .i64 _,.int .i64 10])]) (by simp[results,Tryz.results132,go_sem,wZero,a0,a1,a2,a3];rfl) rfl ?_
  refine⟨by rw[E.out];exact⟨_,10,by decide,rfl⟩,?_⟩
  exact below_set (below_set (below_set (below_set BB2.out lr _) lr _) lr _) lr _
 | true=>
  have E1:Hid (aWant (bl s)=aRest q (bl P) (bl T)):=by show _=_;rw[WA.out,hnm];rfl
  clear hnm
  by_cases hT0:T.size=0
  ·have he:T.toList=[]:=by rw[bl_toList,bl_nil T hT0]
   have he2:T.toList.isEmpty=true:=by rw[he];rfl
   have E:Hid (aWant (bl s)=some ⟨q,bl P,0,[]⟩):=by show _=_;rw[E1.out,bl_nil T hT0];rfl
   have a0:=KA2.out.cell 0 _ rfl
   have fa0:=KA2.out.free 0 (by simp[wZeros])
   have a1:=KA2.out.cell 1 _ rfl
   have fa1:=KA2.out.free 1 (by simp[wZeros])
   have a2:=KA2.out.cell 2 _ rfl
   have fa2:=KA2.out.free 2 (by simp[wZeros])
   have a3:=KA2.out.cell 3 _ rfl
   have fa3:=KA2.out.free 3 (by simp[wZeros])
   have c0:=KB2.out.cell 0 _ rfl
   have fc0:=KB2.out.free 0 (by simp)
   have c1:=KB2.out.cell 1 _ rfl
   have fc1:=KB2.out.free 1 (by simp)
   have c2:=KB2.out.cell 2 _ rfl
   have fc2:=KB2.out.free 2 (by simp)
   have c3:=KB2.out.cell 3 _ rfl
   have fc3:=KB2.out.free 3 (by simp)
   go_wp2_with fail
   refine bodyPost_ret (v:=.tuple #[.agg #[.bool q,.string P,.int .i64 0,.string ⟨#[]⟩],.nilIface]) (by simp[results,Tryz.results132,go_sem,a0,a1,a2,a3]) rfl ?_
   refine⟨by rw[E.out];simp only[Wnt.val,mk_bl];rfl,?_⟩
   exact below_set (below_set (below_set (below_set BB2.out lr _) lr _) lr _) lr _
  ·have he2:T.toList.isEmpty=false:=by rw[bl_toList,bl_isEmpty];exact dF hT0
   have he:¬ T.toList=[]:=by intro h;rw[h] at he2;simp at he2
   go_wp2_with fail
   refine(adep_relation T _ (HG.out.below BB2.out) (by omega)).mono ?_;rintro e w3 ⟨rfl,rfl⟩
   obtain⟨V,hV⟩:∃ V,mkB (aOp (bl T)).2=V:=⟨_,rfl⟩
   have hVz:V.size≤T.size:=by rw[←hV,mk_size,←bl_length];exact aOp_len _
   have E2:Hid (aWant (bl s)=if verE 3 V=0 then some ⟨q,bl P,(aOp (bl T)).1,bl V⟩ else none):=by
    show _=_;rw[E1.out];unfold aRest;rw[hV,if_neg (by rw[bl_isEmpty];simpa using hT0),←hV,bl_of]
   generalize (aOp (bl T)).1=o at E2
   have c0:=KB2.out.cell 0 _ rfl
   have fc0:=KB2.out.free 0 (by simp)
   have c1:=KB2.out.cell 1 _ rfl
   have fc1:=KB2.out.free 1 (by simp)
   have c2:=KB2.out.cell 2 _ rfl
   have fc2:=KB2.out.free 2 (by simp)
   have c3:=KB2.out.cell 3 _ rfl
   have fc3:=KB2.out.free 3 (by simp)
   go_wp2_with fail
   have B3:=hid ((below_set (j:=3) (below_set (j:=2) BB2.out (Nat.le_succ _) (.int .i64 o)) (Nat.le_succ _) (.string V)))
   refine(version_Check_any 3 V _ (HG.out.below (by exact B3.out)) (by omega)).mono ?_;rintro e w4 ⟨rfl,hb4⟩
   have KA4:Hid (Blk w4 w.heap.size wZeros):=((KA2.out.far (by omega) _).far (by omega) _).below hb4
   have KB4:Hid (Blk w4 (w.heap.size+1) [.bool q,.string P,.int .i64 o,.string V]):=((KB2.out.set 2 (by simp) (.int .i64 o)).set 3 (by simp) (.string V)).below hb4
   have BB4:Hid (Below w.heap.size w w4):=bthen B3.out hb4
   clear hb4
   clear c0 fc0 c1 fc1 c2 fc2 c3 fc3
   have a0:=KA4.out.cell 0 _ rfl
   have fa0:=KA4.out.free 0 (by simp[wZeros])
   have a1:=KA4.out.cell 1 _ rfl
   have fa1:=KA4.out.free 1 (by simp[wZeros])
   have a2:=KA4.out.cell 2 _ rfl
   have fa2:=KA4.out.free 2 (by simp[wZeros])
   have a3:=KA4.out.cell 3 _ rfl
   have fa3:=KA4.out.free 3 (by simp[wZeros])
   have c0:=KB4.out.cell 0 _ rfl
   have fc0:=KB4.out.free 0 (by simp)
   have c1:=KB4.out.cell 1 _ rfl
   have fc1:=KB4.out.free 1 (by simp)
   have c2:=KB4.out.cell 2 _ rfl
   have fc2:=KB4.out.free 2 (by simp)
   have c3:=KB4.out.cell 3 _ rfl
   have fc3:=KB4.out.free 3 (by simp)
   by_cases hv:verE 3 V=0
   ·have E:Hid (aWant (bl s)=some ⟨q,bl P,o,bl V⟩):=by show _=_;rw[E2.out,if_pos hv]
    have hv2:(verE 3 V != 0)=false:=by simp[hv]
    clear hv
    go_wp2_with fail
    refine bodyPost_ret (v:=.tuple #[.agg #[.bool q,.string P,.int .i64 o,.string V],.nilIface]) (by simp[results,Tryz.results132,go_sem,a0,a1,a2,a3]) rfl ?_
    refine⟨by rw[E.out];simp only[Wnt.val,mk_bl],?_⟩
    exact below_set (below_set (below_set (below_set BB4.out lr _) lr _) lr _) lr _
   ·have E:Hid (aWant (bl s)=none):=by show _=_;rw[E2.out,if_neg hv]
    have hv2:(verE 3 V != 0)=true:=by simp[hv]
    have HV:=HidN.mk hv
    clear hv
    go_wp2_with fail
    go_region
    go_wp2_with fail
    refine bodyPost_ret (v:=.tuple #[wZero,.iface 222 (.agg #[.int .i64 _,.int .i64 (verE 3 V)])]) (by simp[results,Tryz.results132,go_sem,wZero,a0,a1,a2,a3];rfl) rfl ?_
    refine⟨by rw[E.out];exact⟨_,_,HV.out,rfl⟩,?_⟩
    exact(below_set (below_set (below_set (below_set BB4.out lr _) lr _) lr _) lr _).drew
theorem owns_set {w:World}{base b j:Nat}{e:TypeId}{size n c:Nat}{A:Option Addr}{xs:List Value}{v:Value}(h:w.ownsRow base e size (.slice A n c) n xs)(hb:b<base):(w.setCell ⟨b,j,none⟩ v).ownsRow base e size (.slice A n c) n xs:=by
 have hg:w.grownBy (w.setCell ⟨b,j,none⟩ v) (some b):=only_setCell (World.grownBy.refl w (some b)) (.inl rfl) _
 refine h.kept hg ?_
 cases hq:(Value.slice A n c).ownBlock with
 | none=>exact .inl rfl
 | some q=>right;intro he;injection he with he;have:=(h.lt q hq).1;omega
theorem adep_Parse (s:BA)(w:World)(hG:GlE w)(hs:s.size≤4294967280):
  Calls Tryz.prog 90 #[.string s] w (AParsePost (aParse (bl s)) w):=by
 obtain⟨i0,hi0,hz0,hz1,hz2⟩:=info_parts info_want
 have HG:=hid hG;clear hG
 go_enter Tryz.func90,Tryz.ntmps90
 go_wp2_with fail
 go_loopw [4,5] (fun l p wr=>∃ (L:List Wnt) (A:Option Addr) (n c k f:Nat),l=.slice A n c∧p=.int .i64 k∧k≤s.size∧n≤64∧Hid (WRow w wr L A n c)∧Hid (aParse (bl s)=aTop (f+1) L ((bl s).drop k))∧Hid (s.size-k≤f)) (fun _ p _=>s.size-(intOf p).toNat)
 case atStart=>exact⟨[],none,0,0,0,s.size,rfl,rfl,z0,by omega,WRow.start w,by show _=_;rw[List.drop_zero,←bl_length];exact aTop_start _,lr⟩
 case round=>
  obtain⟨L,A,n,c,k,f,rfl,rfl,hk,hn,HR,HN,HF⟩:=hrel
  by_cases hlt:k<s.size
  ·have HD:Hid ((bl s).drop k=s[k]::(bl s).drop (k+1)):=by
    show _=_;rw[List.drop_eq_getElem_cons (by rw[bl_length];exact hlt),bl_get s k hlt]
   obtain⟨d,hd⟩:∃ d:UInt8,s[k]=d:=⟨_,rfl⟩
   rw[hd] at HD
   by_cases hd32:d.toNat=32
   ·have hdd:d=32:=UInt8.toNat_inj.1 hd32
    have HN2:Hid (aParse (bl s)=aTop (f+1) L ((bl s).drop (k+1))):=by show _=_;rw[HN.out,HD.out,hdd,aTop_blank]
    have HF2:Hid (s.size-(k+1)≤f):=by have:=HF.out;show _≤_;omega
    clear hdd
    go_wp2_with fail
    go_roundw
    case rel=>exact⟨L,A,n,c,k+1,f,rfl,by go_num,by omega,hn,HR,HN2,HF2⟩
    case measure=>simp[intOf];omega
   ·obtain⟨R,hR⟩:∃ R,s.extract k s.size=R:=⟨_,rfl⟩
    have hRb:bl R=(bl s).drop k:=by rw[←hR,bl_drop]
    have hRz:R.size=s.size-k:=by rw[←bl_length,hRb,List.length_drop,bl_length]
    obtain⟨Wd,hWd⟩:∃ Wd,cutA R ⟨#[32]⟩=Wd:=⟨_,rfl⟩
    have hWb:bl Wd=((bl s).drop k).take (runN inkB ((bl s).drop k)):=by
     rw[←hWd,←hRb,←cut_ink];unfold cutA;rw[bl_mk];rfl
    have hink:inkB (((bl s).drop k).headD 32)=true:=by
     rw[HD.out];simp only[List.headD_cons,inkB];simp;intro e;exact hd32 (by rw[e];rfl)
    have hWz:Wd.size=runN inkB ((bl s).drop k):=by
     rw[←bl_length,hWb,List.length_take];have:=runN_le inkB ((bl s).drop k);omega
    have hWp:0<Wd.size:=by
     rw[hWz,HD.out]
     have:inkB d=true:=by rw[HD.out] at hink;exact hink
     simp[runN,this]
    have hWl:Wd.size≤s.size-k:=by
     rw[hWz];have:=runN_le inkB ((bl s).drop k);rw[List.length_drop,bl_length] at this;exact this
    have HK:=hid hink
    have HWB:=hid hWb
    have HWZ:=hid hWz
    clear hink hWb hWz hRb
    have hkk:(k:Int)≤(s.size:Int):=by omega
    go_wp2_with fail
    refine(Cut_any R ⟨#[32]⟩ _ (HG.out.1.below HR.out.bel) (by omega)).mono ?_;rintro e w1 ⟨rfl,hb1⟩
    rw[hWd]
    have HR1:=hid (HR.out.below hb1)
    clear hb1 hWd hR
    by_cases h64:n=64
    ·have E:Hid (aParse (bl s)=none):=by
      show _=_;rw[HN.out];exact aTop_large HK.out (by rw[HR1.out.len];exact h64)
     have h64':((n:Int)==64)=true:=by simp;omega
     have r0:=HR1.out.ret.cell 0 _ rfl
     have r1:=HR1.out.ret.cell 1 _ rfl
     have r2:=HR1.out.ret.cell 2 _ rfl
     have fr0:=HR1.out.ret.free 0 (by simp)
     have fr1:=HR1.out.ret.free 1 (by simp)
     have fr2:=HR1.out.ret.free 2 (by simp)
     go_wp2_with fail
     refine bodyPost_ret (v:=.tuple #[.slice none 0 0,.agg #[.string ⟨#[]⟩,.int .i64 k,.int .i64 4]]) (by simp[results,Tryz.results90,go_sem,r0,r1,r2]) rfl ?_
     refine⟨none,0,0,⟨#[]⟩,k,4,rfl,?_,by rw[E.out];exact⟨by decide,rfl,rfl⟩⟩
     exact below_set (below_set (below_set HR1.out.bel lr _) lr _) lr _
    have h64':((n:Int)==64)=false:=by simp;omega
    go_wp2_with fail
    refine(adep_parse Wd _ (HG.out.1.below HR1.out.bel) (by omega)).mono ?_;rintro e w2 ⟨hpost,hb2⟩
    have HR2:=hid (HR1.out.below hb2)
    clear hb2
    cases hw:aWant (bl Wd) with
    | none=>
     rw[hw] at hpost
     obtain⟨a,y,hy,rfl⟩:=hpost
     have E:Hid (aParse (bl s)=none):=by
      show _=_;rw[HN.out];exact aTop_none HK.out (by rw[←HWB.out];exact hw)
     have HY:=HidN.mk hy
     clear hw hy
     unfold wZero
     go_wp2_with fail
     have HR3:=hid (HR2.out.below (bR.alloc lr (.cells #[.bool false,.string ⟨#[]⟩,.int .i64 0,.string ⟨#[]⟩] 172)))
     refine(adep_faultOf a y k _ (HG.out.below HR3.out.bel)).mono ?_;rintro e w4 ⟨⟨q,rfl⟩,hb4⟩
     have HR4:=hid (HR3.out.below hb4)
     clear hb4
     have r0:=HR4.out.ret.cell 0 _ rfl
     have r1:=HR4.out.ret.cell 1 _ rfl
     have r2:=HR4.out.ret.cell 2 _ rfl
     have fr0:=HR4.out.ret.free 0 (by simp)
     have fr1:=HR4.out.ret.free 1 (by simp)
     have fr2:=HR4.out.ret.free 2 (by simp)
     unfold fltV
     go_wp2_with fail
     refine bodyPost_ret (v:=.tuple #[.slice none 0 0,.agg #[.string ⟨#[]⟩,.int .i64 q,.int .i64 y]]) (by simp[results,Tryz.results90,go_sem,r0,r1,r2]) rfl ?_
     refine⟨none,0,0,⟨#[]⟩,q,y,rfl,?_,by rw[E.out];exact⟨HY.out,rfl,rfl⟩⟩
     exact below_set (below_set (below_set HR4.out.bel lr _) lr _) lr _
    | some x=>
     rw[hw] at hpost
     obtain rfl:=hpost
     have HN2:Hid (aParse (bl s)=aTop (f-1+1) (L++[x]) ((bl s).drop (k+Wd.size))):=by
      have hf:=HF.out
      show _=_
      rw[HN.out,aTop_some HK.out (by rw[HR2.out.len];exact h64) (by rw[←HWB.out];exact hw),List.drop_drop,HWZ.out,show f-1+1=f by omega]
     have HF2:Hid (s.size-(k+Wd.size)≤f-1):=by have:=HF.out;show _≤_;omega
     clear hw
     unfold Wnt.val
     go_wp2_with (at_builtin;refine wpList_append_any _ rfl _ _ _ rfl (w.heap.size+1) 172 i0 _ 4 48 Tryz.underlying125 hi0 hz0 hz1 hz2 rfl (by omega) (.slice A n c) n _ rfl ((HR2.out.row.alloc _).alloc _) (w2.heap.size+1+1) (some ⟨w2.heap.size+1,0,none⟩) 1 1 x.cells rfl (by have:=reads_want (w2.alloc (.cells x.cells.toArray 172)) 172 (.bool x.no) (.string (mkB x.name)) (.int .i64 x.op) (.string (mkB x.ver));simpa [Wnt.cells] using this) (by simp[Value.oneCell',Wnt.cells]) (by simp only[maxLen];omega) (by omega) (by simp;have:=HR2.out.ret.sz;omega) ?_;intro v1 w3 o1 g1 a1)
     obtain⟨A1,c1,rfl⟩:=owns_form o1
     have R3:=hid (HR2.out.grow (x:=x) o1 g1)
     clear o1 g1 a1
     go_wp2_with fail
     go_roundw
     case rel=>exact⟨L++[x],A1,n+1,c1,k+Wd.size,f-1,rfl,by go_num,by omega,by omega,R3,HN2,HF2⟩
     case measure=>simp[intOf];omega
  ·have E:Hid (aParse (bl s)=some L):=by
    show _=_;rw[HN.out,List.drop_of_length_le (by rw[bl_length];omega),aTop_end]
   have r0:=HR.out.ret.cell 0 _ rfl
   have r1:=HR.out.ret.cell 1 _ rfl
   have r2:=HR.out.ret.cell 2 _ rfl
   have fr0:=HR.out.ret.free 0 (by simp)
   have fr1:=HR.out.ret.free 1 (by simp)
   have fr2:=HR.out.ret.free 2 (by simp)
   go_wp2_with fail
   refine bodyPost_ret (v:=.tuple #[.slice A n c,.agg #[.string ⟨#[]⟩,.int .i64 0,.int .i64 0]]) (by simp[results,Tryz.results90,go_sem,r0,r1,r2]) rfl ?_
   refine⟨A,n,c,⟨#[]⟩,0,0,rfl,?_,?_⟩
   ·exact below_set (below_set (below_set HR.out.bel lr _) lr _) lr _
   ·rw[E.out]
    exact⟨rfl,HR.out.len.symm,owns_base (owns_set (owns_set (owns_set HR.out.row (Nat.lt_succ_self _)) (Nat.lt_succ_self _)) (Nat.lt_succ_self _)) (Nat.le_succ _)⟩
end
end Go.Proofs.YtdfdllbebfoggaaGreatDoor
