/- A part of the proof. -/
import Derived.Test.YtlglfpbhapmhiaaGreatDoorK16
set_option maxRecDepth 100000
set_option maxHeartbeats 20000000
set_option linter.unusedVariables false
set_option linter.unusedSimpArgs false
namespace Go.Proofs.YtlglfpbhapmhiaaGreatDoor
section
open Go.RowKit
theorem Jz (s p:BA)(w:World):Calls Tryz.prog 167 #[.string s,.string p] w fun e w'=>e=.returned (.tuple #[.string (bG (Lib.trimPrefix (bl s) (bl p))),.bool (Lib.hasPrefix (bl s) (bl p))])∧w=w':=
 (Tryz.strings_CutPrefix s p w).mono fun _ _ ⟨he,hw⟩=>⟨he,hw.symm⟩
theorem MZ (k:Nat)(hk:k<7)(x:Nat→BA)(w:World):(Instr.index 233 (.agg #[.string (x 0),.string (x 1),.string (x 2),.string (x 3),.string (x 4),.string (x 5),.string (x 6)]) (.int .i64 k)).run Tryz.prog w=.ok (.string (x k)) w:=by
 rcases(by omega:k=0∨k=1∨k=2∨k=3∨k=4∨k=5∨k=6) with rfl | rfl | rfl | rfl | rfl | rfl | rfl<;>kernel_rfl
theorem rD (k:Nat)(hk:k<7):bl (nj k)=iu k:=by
 rcases(by omega:k=0∨k=1∨k=2∨k=3∨k=4∨k=5∨k=6) with rfl | rfl | rfl | rfl | rfl | rfl | rfl<;>rfl
theorem DH {l:LU}{k:Nat}(h1:Lib.hasPrefix l (iu k)=true)(h2:(bG (Lib.trimPrefix l (iu k))).size<(bG (ct l k).2).size):ct l (k+1)=(k,Lib.trimPrefix l (iu k)):=by
 rw[bV,bV] at h2
 simp[ct,h1,h2]
theorem Ak {l:LU}{k:Nat}(h2:¬ (bG (Lib.trimPrefix l (iu k))).size<(bG (ct l k).2).size):ct l (k+1)=ct l k:=by
 rw[bV,bV] at h2
 simp[ct,h2]
theorem GP {l:LU}{k:Nat}(h1:Lib.hasPrefix l (iu k)=false):ct l (k+1)=ct l k:=by
 simp[ct,h1]
theorem Cp (l p:LU):(Lib.trimPrefix l p).length≤l.length:=by
 unfold Lib.trimPrefix;split<;>simp
theorem rE (l:LU):∀ k,(ct l k).2.length≤l.length
 | 0=>Nat.le_refl _
 | k+1=>by
  unfold ct;split
  ·exact Cp _ _
  ·exact rE l k
theorem tW (s:BA)(w:World)(hG:Gl w)(hs:s.size≤9223372036854775807):
  Calls Tryz.prog 218 #[.string s] w fun e w'=>e=.returned (.tuple #[.int .i64 (tN (bl s)).1,.string (bG (tN (bl s)).2)])∧w=w':=by
 have g0:=hG.asg 0 (by omega)
 have g1:=hG.asg 1 (by omega)
 have g2:=hG.asg 2 (by omega)
 have g3:=hG.asg 3 (by omega)
 have g4:=hG.asg 4 (by omega)
 have g5:=hG.asg 5 (by omega)
 have g6:=hG.asg 6 (by omega)
 clear hG
 go_enter Tryz.func218,Tryz.ntmps218
 go_wp2_with fail
 clear g0 g1 g2 g3 g4 g5 g6
 go_loop [4,5,12] (fun o b i=>∃ k:Nat,k≤7∧∃ (n:Nat) (B:BA),o=.int .i64 n∧b=.string B∧i=.int .i64 k∧Hid (ct (bl s) k=(n,bl B))) (fun _ _ i=>7-(intOf i).toNat)
 case atStart=>exact⟨0,by omega,0,s,rfl,rfl,rfl,rfl⟩
 case round=>
  obtain⟨k,hk,n,B,rfl,rfl,rfl,HR⟩:=hrel
  by_cases hlt:k<7
  ·have hix:=fun W=>MZ k hlt nj W
   have hsg:=rD k hlt
   obtain⟨T,hT⟩:∃ T,bG (Lib.trimPrefix (bl s) (iu k))=T:=⟨_,rfl⟩
   have hTz:T.size≤s.size:=by rw[←hT,bV,←ah];exact Cp _ _
   have hBz:B.size≤s.size:=by rw[←ah,←ah,show bl B=(ct (bl s) k).2 by rw[HR.out]];exact rE _ _
   have hbT:bl T=Lib.trimPrefix (bl s) (iu k):=by rw[←hT,et]
   have hmB:bG (ct (bl s) k).2=B:=by rw[HR.out];exact mo B
   cases hp:Lib.hasPrefix (bl s) (iu k) with
   | false=>
    have HN:=ae ((GP hp).trans HR.out)
    clear hmB hbT
    go_wp2_with (go_at_call 167;refine(Jz _ _ _).mono ?_;rintro e w' ⟨rfl,rfl⟩;rw[hsg,hp,hT])
    go_round
    case rel=>exact⟨k+1,by omega,n,B,rfl,rfl,by go_num,HN⟩
    case measure=>simp[intOf];omega
   | true=>
    by_cases hl:T.size<B.size
    ·have HN:Hid (ct (bl s) (k+1)=(k,bl T)):=by show _=_;rw[DH hp (by rw[hT,hmB];exact hl),hbT]
     clear hmB hbT
     go_wp2_with (go_at_call 167;refine(Jz _ _ _).mono ?_;rintro e w' ⟨rfl,rfl⟩;rw[hsg,hp,hT])
     go_round
     case rel=>exact⟨k+1,by omega,k,T,rfl,rfl,by go_num,HN⟩
     case measure=>simp[intOf];omega
    ·have HN:=ae ((Ak (by rw[hT,hmB];exact hl)).trans HR.out)
     clear hmB hbT
     go_wp2_with (go_at_call 167;refine(Jz _ _ _).mono ?_;rintro e w' ⟨rfl,rfl⟩;rw[hsg,hp,hT])
     go_round
     case rel=>exact⟨k+1,by omega,n,B,rfl,rfl,by go_num,HN⟩
     case measure=>simp[intOf];omega
  ·have E:Hid (tN (bl s)=(n,bl B)):=by show _=_;rw[←uI,←HR.out];congr 1;omega
   go_wp2_with fail
   go_ret2
   exact⟨by rw[E.out,mo];rfl,rfl⟩
end
section
open Go.RowKit Go.Deep
theorem JA (c:UInt8):(bl gh).contains c=Dw c:=by
 have:=jI (fun c=>(bl gh).contains c==Dw c) (by kernel_rfl) c
 simpa using this
theorem uN:∀ l:LU,(0≤Lib.indexAny l (bl gh)→Lib.indexAny l (bl gh)=aA kC l)∧(Lib.indexAny l (bl gh)<0→aA kC l=l.length)
 | []=>⟨fun h=>by simp[Lib.indexAny] at h,fun _=>rfl⟩
 | b::l=>by
  obtain⟨h1,h2⟩:=uN l
  have hge:=Lib.indexAny_ge (bl gh) l
  unfold Lib.indexAny
  rw[JA]
  cases hb:Dw b with
  | true=>exact⟨fun _=>by simp[aA,kC,hb],fun h=>by simp at h⟩
  | false=>
   have hr:aA kC (b::l)=aA kC l+1:=gJ (by simp[kC,hb])
   rw[hr]
   simp only[Bool.false_eq_true,if_false,beq_iff_eq]
   split
   ·rename_i h;exact⟨fun h=>by simp at h,fun _=>by rw[h2 (by omega)];rfl⟩
   ·rename_i h;exact⟨fun _=>by rw[h1 (by omega)];push_cast;rfl,fun hh=>by omega⟩
theorem yl (l:LU):Lib.hasPrefix l [33]=ay 33 l:=by
 cases l with
 | nil=>rfl
 | cons a r=>rw[kT];simp only[ay];rw[Bool.beq_comm]
theorem uO (l:LU):Lib.trimPrefix l [33]=bW l:=by
 unfold Lib.trimPrefix bW
 rw[yl];rfl
theorem GQ (l:LU):(bW l).length≤l.length:=by unfold bW;split<;>simp
theorem JB (l:LU):(tN l).2.length≤l.length:=by rw[←uI];exact rE l 7
def fH.val (x:fH):Value:=.agg #[.bool x.no,.string (bG x.name),.int .i64 x.op,.string (bG x.ver)]
def uP:Value:=.agg #[.bool false,.string ⟨#[]⟩,.int .i64 0,.string ⟨#[]⟩]
def eQ:LV:=[.bool false,.string ⟨#[]⟩,.int .i64 0,.string ⟨#[]⟩]
def GR (r:Option fH)(w:World)(e:Ending)(w':World):Prop:=
 (match r with
  | some x=>e=.returned (.tuple #[x.val,.nilIface])
  | none=>∃ a c:Int,c≠0∧e=.returned (.tuple #[uP,.iface 264 (.agg #[.int .i64 a,.int .i64 c])]))∧Below w.heap.size w w'
theorem Al (s:BA)(w:World)(hG:Gl w)(hs:s.size≤4294967280):
  Calls Tryz.prog 180 #[.string s] w (GR (gi (bl s)) w):=by
 have HG:=ae hG;clear hG
 obtain⟨R,hR⟩:∃ R,bG (bW (bl s))=R:=⟨_,rfl⟩
 have hRb:bl R=bW (bl s):=by rw[←hR,et]
 have hRz:R.size≤s.size:=by rw[←ah,←ah,hRb];exact GQ _
 obtain⟨n,hn⟩:∃ n,aA kC (bl R)=n:=⟨_,rfl⟩
 have hnz:n≤R.size:=by rw[←hn,←ah];exact eZ _ _
 obtain⟨i1,i2⟩:=uN (bl R)
 rw[hn] at i1 i2
 rw[ah] at i2
 have hcp:=fun W=>Jz s ⟨#[33]⟩ W
 have e33:bl ⟨#[33]⟩=[33]:=rfl
 rw[e33,uO,yl,hR] at hcp
 generalize hq:ay 33 (bl s)=q at hcp
 go_enter Tryz.func180,Tryz.ntmps180
 go_wp2_with fail
 refine(hcp _).mono ?_;rintro e w' ⟨rfl,rfl⟩
 go_wp2_with fail
 refine(vR R _ (by omega)).mono ?_;rintro e w1 ⟨rfl,hb1⟩
 generalize Lib.indexAny (bl R) (bl gh)=ia at i1 i2
 have BB:Hid (Below w.heap.size w w1):=((bR.alloc lr _).alloc (by simp) _).trans (hb1.mono (by simp;omega))
 have KA:Hid (av w1 w.heap.size eQ):=((av.new w eQ _).alloc _).below hb1
 have KB:Hid (av w1 (w.heap.size+1) [.bool q,.string ⟨#[]⟩,.int .i64 0,.string ⟨#[]⟩]):=(by have:=av.new (w.alloc (.cells #[.bool false,.string ⟨#[]⟩,.int .i64 0,.string ⟨#[]⟩] 226)) [.bool q,.string ⟨#[]⟩,.int .i64 0,.string ⟨#[]⟩] 226;simpa using this:av _ (w.heap.size+1) _).below hb1
 clear hb1
 go_upto_if 19 with(fail)
 go_cut [7] (fun v wx=>v=.int .i64 n∧w1=wx)
 case first=>
  by_cases hia:0≤ia
  ·have e1:=i1 hia
   have hia2:¬ ia<0:=by omega
   clear i1 i2
   go_wp2_with fail
   go_meet
   exact⟨rfl,rfl⟩
  ·have hia2:ia<0:=by omega
   have e1:=i2 hia2
   clear i1 i2 hia
   go_wp2_with fail
   go_meet
   exact⟨by rw[e1],rfl⟩
 case rest=>
 obtain⟨rfl,rfl⟩:=hcut
 clear i1 i2
 have hnz2:(n:Int)≤(R.size:Int):=by omega
 have c1:=KB.out.cell 1 _ rfl
 have fc1:=KB.out.free 1 (by simp)
 obtain⟨P,hP⟩:∃ P,R.extract 0 n=P:=⟨_,rfl⟩
 obtain⟨T,hT⟩:∃ T,R.extract n R.size=T:=⟨_,rfl⟩
 have hPb:bl P=(bl R).take n:=by rw[←hP,du]
 have hTb:bl T=(bl R).drop n:=by rw[←hT,cC]
 have hPz:P.size=n:=by rw[←ah,hPb,List.length_take,ah];omega
 have hTz:T.size=R.size-n:=by rw[←ah,hTb,List.length_drop,ah]
 have WA:Hid (gi (bl s)=if cR (bl P) then xU q (bl P) (bl T) else none):=by
  show _=_;unfold gi;rw[←hRb,hn,hq,←hPb,←hTb]
 clear hPb hTb hRb hn hq hR hcp e33
 go_wp2_with fail
 go_region
 clear c1 fc1
 have c1:=(KB.out.set 1 (by simp) (.string P)).drew.cell 1 _ rfl
 go_wp2_with fail
 refine(oF P _ (by omega)).mono ?_;rintro e w2 ⟨rfl,hw⟩
 have KA2:Hid (av w2 w.heap.size eQ):=by rw[←hw];exact(KA.out.far (by omega) _).drew
 have KB2:Hid (av w2 (w.heap.size+1) [.bool q,.string P,.int .i64 0,.string ⟨#[]⟩]):=by rw[←hw];exact(KB.out.set 1 (by simp) (.string P)).drew
 have BB2:Hid (Below w.heap.size w w2):=by rw[←hw];exact(ag BB.out (by omega) _).drew
 clear hw c1 hP hT
 cases hnm:cR (bl P) with
 | false=>
  have E:Hid (gi (bl s)=none):=by show _=_;rw[WA.out,hnm];rfl
  clear hnm
  have a0:=KA2.out.cell 0 _ rfl
  have fa0:=KA2.out.free 0 (by simp[eQ])
  have a1:=KA2.out.cell 1 _ rfl
  have fa1:=KA2.out.free 1 (by simp[eQ])
  have a2:=KA2.out.cell 2 _ rfl
  have fa2:=KA2.out.free 2 (by simp[eQ])
  have a3:=KA2.out.cell 3 _ rfl
  have fa3:=KA2.out.free 3 (by simp[eQ])
  go_wp2_with fail
  refine bodyPost_ret (v:=.tuple #[uP,.iface 264 (.agg #[.int .i64 _,.int .i64 10])]) (by simp[results,Tryz.results180,go_sem,uP,a0,a1,a2,a3];rfl) rfl ?_
  refine⟨by rw[E.out];exact⟨_,10,by decide,rfl⟩,?_⟩
  exact ag (ag (ag (ag BB2.out lr _) lr _) lr _) lr _
 | true=>
  have E1:Hid (gi (bl s)=xU q (bl P) (bl T)):=by show _=_;rw[WA.out,hnm];rfl
  clear hnm
  by_cases hT0:T.size=0
  ·have he:T.toList=[]:=by rw[ai,bL T hT0]
   have he2:T.toList.isEmpty=true:=by rw[he];rfl
   have E:Hid (gi (bl s)=some ⟨q,bl P,0,[]⟩):=by show _=_;rw[E1.out,bL T hT0];rfl
   have a0:=KA2.out.cell 0 _ rfl
   have fa0:=KA2.out.free 0 (by simp[eQ])
   have a1:=KA2.out.cell 1 _ rfl
   have fa1:=KA2.out.free 1 (by simp[eQ])
   have a2:=KA2.out.cell 2 _ rfl
   have fa2:=KA2.out.free 2 (by simp[eQ])
   have a3:=KA2.out.cell 3 _ rfl
   have fa3:=KA2.out.free 3 (by simp[eQ])
   have c0:=KB2.out.cell 0 _ rfl
   have fc0:=KB2.out.free 0 (by simp)
   have c1:=KB2.out.cell 1 _ rfl
   have fc1:=KB2.out.free 1 (by simp)
   have c2:=KB2.out.cell 2 _ rfl
   have fc2:=KB2.out.free 2 (by simp)
   have c3:=KB2.out.cell 3 _ rfl
   have fc3:=KB2.out.free 3 (by simp)
   go_wp2_with fail
   refine bodyPost_ret (v:=.tuple #[.agg #[.bool q,.string P,.int .i64 0,.string ⟨#[]⟩],.nilIface]) (by simp[results,Tryz.results180,go_sem,a0,a1,a2,a3]) rfl ?_
   refine⟨by rw[E.out];simp only[fH.val,mo];rfl,?_⟩
   exact ag (ag (ag (ag BB2.out lr _) lr _) lr _) lr _
  ·have he2:T.toList.isEmpty=false:=by rw[ai,aY];exact dF hT0
   have he:¬ T.toList=[]:=by intro h;rw[h] at he2;simp at he2
   go_wp2_with fail
   refine(tW T _ (HG.out.below BB2.out) (by omega)).mono ?_;rintro e w3 ⟨rfl,rfl⟩
   obtain⟨V,hV⟩:∃ V,bG (tN (bl T)).2=V:=⟨_,rfl⟩
   have hVz:V.size≤T.size:=by rw[←hV,bV,←ah];exact JB _
   have E2:Hid (gi (bl s)=if cJ 3 V=0 then some ⟨q,bl P,(tN (bl T)).1,bl V⟩ else none):=by
    show _=_;rw[E1.out];unfold xU;rw[hV,if_neg (by rw[aY];simpa using hT0),←hV,et]
   generalize (tN (bl T)).1=o at E2
   have c0:=KB2.out.cell 0 _ rfl
   have fc0:=KB2.out.free 0 (by simp)
   have c1:=KB2.out.cell 1 _ rfl
   have fc1:=KB2.out.free 1 (by simp)
   have c2:=KB2.out.cell 2 _ rfl
   have fc2:=KB2.out.free 2 (by simp)
   have c3:=KB2.out.cell 3 _ rfl
   have fc3:=KB2.out.free 3 (by simp)
   go_wp2_with fail
   have B3:=ae ((ag (j:=3) (ag (j:=2) BB2.out (Nat.le_succ _) (.int .i64 o)) (Nat.le_succ _) (.string V)))
   refine(aU 3 V _ (HG.out.below (by exact B3.out)) (by omega)).mono ?_;rintro e w4 ⟨rfl,hb4⟩
   have KA4:Hid (av w4 w.heap.size eQ):=((KA2.out.far (by omega) _).far (by omega) _).below hb4
   have KB4:Hid (av w4 (w.heap.size+1) [.bool q,.string P,.int .i64 o,.string V]):=((KB2.out.set 2 (by simp) (.int .i64 o)).set 3 (by simp) (.string V)).below hb4
   have BB4:Hid (Below w.heap.size w w4):=ap B3.out hb4
   clear hb4
   clear c0 fc0 c1 fc1 c2 fc2 c3 fc3
   have a0:=KA4.out.cell 0 _ rfl
   have fa0:=KA4.out.free 0 (by simp[eQ])
   have a1:=KA4.out.cell 1 _ rfl
   have fa1:=KA4.out.free 1 (by simp[eQ])
   have a2:=KA4.out.cell 2 _ rfl
   have fa2:=KA4.out.free 2 (by simp[eQ])
   have a3:=KA4.out.cell 3 _ rfl
   have fa3:=KA4.out.free 3 (by simp[eQ])
   have c0:=KB4.out.cell 0 _ rfl
   have fc0:=KB4.out.free 0 (by simp)
   have c1:=KB4.out.cell 1 _ rfl
   have fc1:=KB4.out.free 1 (by simp)
   have c2:=KB4.out.cell 2 _ rfl
   have fc2:=KB4.out.free 2 (by simp)
   have c3:=KB4.out.cell 3 _ rfl
   have fc3:=KB4.out.free 3 (by simp)
   by_cases hv:cJ 3 V=0
   ·have E:Hid (gi (bl s)=some ⟨q,bl P,o,bl V⟩):=by show _=_;rw[E2.out,if_pos hv]
    have hv2:(cJ 3 V != 0)=false:=by simp[hv]
    clear hv
    go_wp2_with fail
    refine bodyPost_ret (v:=.tuple #[.agg #[.bool q,.string P,.int .i64 o,.string V],.nilIface]) (by simp[results,Tryz.results180,go_sem,a0,a1,a2,a3]) rfl ?_
    refine⟨by rw[E.out];simp only[fH.val,mo],?_⟩
    exact ag (ag (ag (ag BB4.out lr _) lr _) lr _) lr _
   ·have E:Hid (gi (bl s)=none):=by show _=_;rw[E2.out,if_neg hv]
    have hv2:(cJ 3 V != 0)=true:=by simp[hv]
    have HV:=tG.mk hv
    clear hv
    go_wp2_with fail
    go_region
    go_wp2_with fail
    refine bodyPost_ret (v:=.tuple #[uP,.iface 264 (.agg #[.int .i64 _,.int .i64 (cJ 3 V)])]) (by simp[results,Tryz.results180,go_sem,uP,a0,a1,a2,a3];rfl) rfl ?_
    refine⟨by rw[E.out];exact⟨_,_,HV.out,rfl⟩,?_⟩
    exact(ag (ag (ag (ag BB4.out lr _) lr _) lr _) lr _).drew
end
end Go.Proofs.YtlglfpbhapmhiaaGreatDoor
