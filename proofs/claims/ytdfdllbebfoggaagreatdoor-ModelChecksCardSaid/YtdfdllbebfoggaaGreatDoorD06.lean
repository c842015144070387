/- A part of the proof that ModelChecks holds. No condition. -/
import Derived.Test.YtdfdllbebfoggaaGreatDoorD02
import Derived.Test.YtdfdllbebfoggaaGreatDoorD03
set_option maxRecDepth 100000
set_option maxHeartbeats 20000000
set_option linter.unusedVariables false
set_option linter.unusedSimpArgs false
namespace Go.Proofs.YtdfdllbebfoggaaGreatDoor
section
open Go.RowKit
theorem bthen {w w1 w2:World}(h1:Below w.heap.size w w1)(h2:Below w1.heap.size w1 w2):Below w.heap.size w w2:=h1.trans (h2.mono h1.size)
def aw (fmt:Int)(n:Nat):BA:=
 if fmt=1 then (match n with | 0=>⟨#[97,109,100,54,52]⟩ | 1=>⟨#[97,114,109,54,52]⟩ | _=>⟨#[97,108,108]⟩)
 else (match n with | 0=>⟨#[120,56,54,95,54,52]⟩ | 1=>⟨#[97,97,114,99,104,54,52]⟩ | _=>⟨#[110,111,97,114,99,104]⟩)
theorem idx3_0 (x0 x1 x2:Value)(w:World):(Instr.index 62 (.agg #[x0,x1,x2]) (.int .i64 0)).run Tryz.prog w=.ok x0 w:=by kernel_rfl
theorem idx3_1 (x0 x1 x2:Value)(w:World):(Instr.index 62 (.agg #[x0,x1,x2]) (.int .i64 1)).run Tryz.prog w=.ok x1 w:=by kernel_rfl
theorem idx3_2 (x0 x1 x2:Value)(w:World):(Instr.index 62 (.agg #[x0,x1,x2]) (.int .i64 2)).run Tryz.prog w=.ok x2 w:=by kernel_rfl
theorem model_archs (n:Int)(w:World):
  Calls Tryz.prog 32 #[.int .i64 n] w fun e w'=>e=.returned (.agg #[.string (aw n 0),.string (aw n 1),.string (aw n 2)])∧Below w.heap.size w w':=by
 by_cases h:n=1
 ·subst h
  go_enter Tryz.func32,Tryz.ntmps32
  go_wp2
  refine bodyPost_ret (v:=.agg #[.string (aw 1 0),.string (aw 1 1),.string (aw 1 2)]) (by simp[results,Tryz.results32,go_sem,aw]) rfl ⟨rfl,?_⟩
  exact bR.alloc lr _
 ·have hb:(n==1)=false:=by simpa using h
  go_enter Tryz.func32,Tryz.ntmps32
  go_wp2
  refine bodyPost_ret (v:=.agg #[.string (aw n 0),.string (aw n 1),.string (aw n 2)]) (by simp[results,Tryz.results32,go_sem,aw,h]) rfl ⟨rfl,?_⟩
  exact bR.alloc lr _
theorem ref_machine (n:Int)(k:Nat)(hk:k<3)(w:World):
  Calls Tryz.prog 40 #[.int .i64 n,.int .i64 k] w fun e w'=>e=.returned (.string (aw n k))∧Below w.heap.size w w':=by
 by_cases h:n=1
 ·subst h
  go_enter Tryz.func40,Tryz.ntmps40
  go_wp2
  go_ret
  refine⟨?_,(bR.alloc lr _).alloc (by simp) _⟩
  rcases(by omega:k=0∨k=1∨k=2) with rfl | rfl | rfl<;>simp[aw]
 ·have hb:(n==1)=false:=by simpa using h
  go_enter Tryz.func40,Tryz.ntmps40
  go_wp2
  go_ret
  refine⟨?_,bR.alloc lr _⟩
  rcases(by omega:k=0∨k=1∨k=2) with rfl | rfl | rfl<;>simp[aw,h]
def archOf (a b:Int)(s:BA):BA×Int:=
 if fmtB a=false∨fmtB b=false then (⟨#[]⟩,9)
 else if aw a 0=s then (aw b 0,0) else if aw a 1=s then (aw b 1,0) else if aw a 2=s then (aw b 2,0) else (⟨#[]⟩,11)
def archV (r:BA×Int):Value:=.tuple #[.string r.1,.int .i64 r.2]
theorem beq_bl (s t:BA):(s.toList==t.toList)=decide (s=t):=by
 rw[bl_toList,bl_toList,bI];simp;exact⟨bl_inj,fun h=>by rw[h]⟩
theorem model_Arch (a b:Int)(s:BA)(w:World):
  Calls Tryz.prog 12 #[.int .i64 a,.int .i64 b,.string s] w fun e w'=>e=.returned (archV (archOf a b s))∧Below w.heap.size w w':=by
 have i0:=idx3_0
 have i1:=idx3_1
 have i2:=idx3_2
 by_cases ha:fmtB a=false
 ·go_enter Tryz.func12,Tryz.ntmps12
  go_wp2_with (go_at_call 29;refine(model_isFormat _ _).mono ?_;rintro e w' ⟨rfl,rfl⟩)
  go_ret2
  exact⟨by simp[archV,archOf,ha],bR⟩
 simp only[Bool.not_eq_false] at ha
 by_cases hb:fmtB b=false
 ·go_enter Tryz.func12,Tryz.ntmps12
  go_wp2_with (go_at_call 29;refine(model_isFormat _ _).mono ?_;rintro e w' ⟨rfl,rfl⟩)
  go_ret2
  exact⟨by simp[archV,archOf,hb],bR⟩
 simp only[Bool.not_eq_false] at hb
 go_enter Tryz.func12,Tryz.ntmps12
 go_wp2_with (first | (go_at_call 29;refine(model_isFormat _ _).mono ?_;rintro e w' ⟨rfl,rfl⟩) | (go_at_call 32;refine(model_archs _ _).mono ?_;rintro e w1 ⟨rfl,hb1⟩))
 refine wp_loop_rounds 4 ?_
 rw[rounds_succ]
 go_wp2_with (go_at_call 32;refine(model_archs _ _).mono ?_;rintro e w2 ⟨rfl,hb2⟩)
 ·have h0:((aw a 0).toList==s.toList)=true:=by assumption
  rw[beq_bl,decide_eq_true_iff] at h0
  go_ret2
  exact⟨by simp[archV,archOf,ha,hb,h0],bthen hb1 hb2⟩
 have h0:((aw a 0).toList==s.toList)=false:=by assumption
 have H0:=hid h0;clear h0
 rw[rounds_succ]
 go_wp2_with (go_at_call 32;refine(model_archs _ _).mono ?_;rintro e w2 ⟨rfl,hb2⟩)
 ·have h1:((aw a 1).toList==s.toList)=true:=by assumption
  have h0:=H0.out
  rw[beq_bl,decide_eq_true_iff] at h1
  rw[beq_bl,decide_eq_false_iff_not] at h0
  go_ret2
  exact⟨by simp[archV,archOf,ha,hb,h0,h1],bthen hb1 hb2⟩
 have h1:((aw a 1).toList==s.toList)=false:=by assumption
 have H1:=hid h1;clear h1
 rw[rounds_succ]
 go_wp2_with (go_at_call 32;refine(model_archs _ _).mono ?_;rintro e w2 ⟨rfl,hb2⟩)
 ·have h2:((aw a 2).toList==s.toList)=true:=by assumption
  have h0:=H0.out
  have h1:=H1.out
  rw[beq_bl,decide_eq_true_iff] at h2
  rw[beq_bl,decide_eq_false_iff_not] at h0 h1
  go_ret2
  exact⟨by simp[archV,archOf,ha,hb,h0,h1,h2],bthen hb1 hb2⟩
 have h2:((aw a 2).toList==s.toList)=false:=by assumption
 have H2:=hid h2;clear h2
 rw[rounds_succ]
 go_wp2_with fail
 have h0:=H0.out
 have h1:=H1.out
 have h2:=H2.out
 rw[beq_bl,decide_eq_false_iff_not] at h0 h1 h2
 go_ret2
 exact⟨by simp[archV,archOf,ha,hb,h0,h1,h2],hb1⟩
theorem ref_machine0 (n:Int)(w:World):Calls Tryz.prog 40 #[.int .i64 n,.int .i64 0] w fun e w'=>e=.returned (.string (aw n 0))∧Below w.heap.size w w':=ref_machine n 0 (by omega) w
theorem ref_machine1 (n:Int)(w:World):Calls Tryz.prog 40 #[.int .i64 n,.int .i64 1] w fun e w'=>e=.returned (.string (aw n 1))∧Below w.heap.size w w':=ref_machine n 1 (by omega) w
theorem ref_machine2 (n:Int)(w:World):Calls Tryz.prog 40 #[.int .i64 n,.int .i64 2] w fun e w'=>e=.returned (.string (aw n 2))∧Below w.heap.size w w':=ref_machine n 2 (by omega) w
theorem ref_Arch (a b:Int)(s:BA)(w:World):
  Calls Tryz.prog 13 #[.int .i64 a,.int .i64 b,.string s] w fun e w'=>e=.returned (archV (archOf a b s))∧Below w.heap.size w w':=by
 by_cases ha:fmtB a=false∨fmtB b=false
 ·have ha':a<1∨3<a∨b<1∨3<b:=by simp[fmtB] at ha;omega
  go_enter Tryz.func13,Tryz.ntmps13
  go_wp2_with fail
  all_goals (go_ret2;exact⟨by simp[archV,archOf,ha],bR⟩)
 ·have ha':1≤a∧a≤3∧1≤b∧b≤3:=by simp[fmtB] at ha;omega
  have HA:=hid ha;clear ha
  obtain⟨a1,a2,b1,b2⟩:=ha'
  go_enter Tryz.func13,Tryz.ntmps13
  go_wp2_with fail
  refine wp_loop_rounds 4 ?_
  rw[rounds_succ]
  go_wp2_with fail
  refine(ref_machine0 _ _).mono ?_;rintro e w1 ⟨rfl,hb1⟩
  go_wp2_with (go_at_call 40;refine(ref_machine0 _ _).mono ?_;rintro e w2 ⟨rfl,hb2⟩)
  ·have h0:((aw a 0).toList==s.toList)=true:=by assumption
   rw[beq_bl,decide_eq_true_iff] at h0
   have hA:=HA.out
   go_ret2
   exact⟨by simp[archV,archOf,hA,h0],bthen hb1 hb2⟩
  have h0:((aw a 0).toList==s.toList)=false:=by assumption
  have H0:=hid h0;clear h0
  rw[rounds_succ]
  go_wp2_with fail
  refine(ref_machine1 _ _).mono ?_;rintro e w2 ⟨rfl,hb2⟩
  go_wp2_with (go_at_call 40;refine(ref_machine1 _ _).mono ?_;rintro e w3 ⟨rfl,hb3⟩)
  ·have h1:((aw a 1).toList==s.toList)=true:=by assumption
   have h0:=H0.out
   have hA:=HA.out
   rw[beq_bl,decide_eq_true_iff] at h1
   rw[beq_bl,decide_eq_false_iff_not] at h0
   go_ret2
   exact⟨by simp[archV,archOf,hA,h0,h1],bthen (bthen hb1 hb2) hb3⟩
  have h1:((aw a 1).toList==s.toList)=false:=by assumption
  have H1:=hid h1;clear h1
  rw[rounds_succ]
  go_wp2_with fail
  refine(ref_machine2 _ _).mono ?_;rintro e w3 ⟨rfl,hb3⟩
  go_wp2_with (go_at_call 40;refine(ref_machine2 _ _).mono ?_;rintro e w4 ⟨rfl,hb4⟩)
  ·have h2:((aw a 2).toList==s.toList)=true:=by assumption
   have h0:=H0.out
   have h1:=H1.out
   have hA:=HA.out
   rw[beq_bl,decide_eq_true_iff] at h2
   rw[beq_bl,decide_eq_false_iff_not] at h0 h1
   go_ret2
   exact⟨by simp[archV,archOf,hA,h0,h1,h2],bthen (bthen (bthen hb1 hb2) hb3) hb4⟩
  have h2:((aw a 2).toList==s.toList)=false:=by assumption
  have H2:=hid h2;clear h2
  rw[rounds_succ]
  go_wp2_with fail
  have h0:=H0.out
  have h1:=H1.out
  have h2:=H2.out
  have hA:=HA.out
  rw[beq_bl,decide_eq_false_iff_not] at h0 h1 h2
  go_ret2
  exact⟨by simp[archV,archOf,hA,h0,h1,h2],bthen (bthen hb1 hb2) hb3⟩
def decVal (l:LU):Int:=l.foldl (fun n c=>10*n+((c.toNat:Int)-48)) 0
theorem decVal_snoc (l:LU)(c:UInt8):decVal (l++[c])=10*decVal l+((c.toNat:Int)-48):=by simp[decVal,List.foldl_append]
theorem decVal_take (s:BA)(k:Nat)(h:k<s.size):decVal ((bl s).take (k+1))=10*decVal ((bl s).take k)+((s[k].toNat:Int)-48):=by
 rw[tS (by rw[bl_length];exact h),decVal_snoc,bl_get s k h]
theorem foldl_mono:∀ (l:LU)(n:Int),0≤n→l.all digB=true→n≤l.foldl (fun n c=>10*n+((c.toNat:Int)-48)) n
 | [],n,_,_=>Int.le_refl _
 | c::r,n,h,ha=>by
  rw[List.all_cons,Bool.and_eq_true] at ha
  have hc:48≤c.toNat:=(dO ha.1).1
  have:=foldl_mono r (10*n+((c.toNat:Int)-48)) (by omega) ha.2
  rw[List.foldl_cons];omega
theorem decVal_le (l:LU)(k:Nat)(h:l.all digB=true):0≤decVal (l.take k)∧decVal (l.take k)≤decVal l:=by
 have h1:(l.take k).all digB=true:=by rw[List.all_eq_true] at h ⊢;exact fun x hx=>h x (List.mem_of_mem_take hx)
 have h2:(l.drop k).all digB=true:=by rw[List.all_eq_true] at h ⊢;exact fun x hx=>h x (List.mem_of_mem_drop hx)
 have h3:0≤decVal (l.take k):=foldl_mono _ 0 (Int.le_refl _) h1
 refine⟨h3,?_⟩
 have h4:=foldl_mono (l.drop k) _ h3 h2
 have h5:decVal l=(l.drop k).foldl (fun n c=>10*n+((c.toNat:Int)-48)) (decVal (l.take k)):=by
  unfold decVal;rw[←List.foldl_append,List.take_append_drop]
 omega
def decB (l:LU):Bool:=!l.isEmpty && !(decide (1<l.length)&&decide (l.head?=some 48))&&l.all digB
def bigN:Int:=4611686018427387903
def undecN (l:LU):Int:=if decB l then (if decVal l≤bigN then decVal l else 0) else 0
def undecE (l:LU):Int:=if decB l then (if decVal l≤bigN then 0 else 4) else 3
theorem decB_nil {s:BA}(h:s.size=0):decB (bl s)=false:=by rw[bl_nil s h];rfl
theorem decB_nought {s:BA}(h:1<s.size)(h0:s[0]=48):decB (bl s)=false:=by
 unfold decB
 have:(bl s).head?=some 48:=by rw[bl_cons s (by omega),h0];rfl
 rw[this,bl_length];simp[h]
theorem decB_all {s:BA}(h:0<s.size)(h0:¬ (1<s.size∧s[0]=48)):decB (bl s)=(bl s).all digB:=by
 unfold decB
 have h1:(bl s).head?=some s[0]:=by rw[bl_cons s h];rfl
 have h2:(bl s).isEmpty=false:=by rw[bl_isEmpty];exact dF (by omega)
 rw[h1,h2,bl_length]
 have:(decide (1<s.size)&&decide (some s[0]=some (48:UInt8)))=false:=by
  rw[Bool.and_eq_false_iff]
  by_cases h3:1<s.size
  ·right;simp;exact fun h4=>h0 ⟨h3,h4⟩
  ·left;simp;omega
 rw[this];simp
theorem undec_bad {l:LU}(h:decB l=false):undecN l=0∧undecE l=3:=by simp[undecN,undecE,h]
theorem undec_ok {l:LU}(h:decB l=true)(hv:decVal l≤bigN):undecN l=decVal l∧undecE l=0:=by simp[undecN,undecE,h,hv]
theorem undec_big {l:LU}(h:decB l=true)(hv:¬ decVal l≤bigN):undecN l=0∧undecE l=4:=by simp[undecN,undecE,h,hv]
def undecV (l:LU):Value:=.tuple #[.int .i64 (undecN l),.int .i64 (undecE l)]
theorem codec_Undec (s:BA)(w:World)(hs:s.size≤9223372036854775807):
  Calls Tryz.prog 139 #[.string s] w fun e w'=>e=.returned (undecV (bl s))∧w=w':=by
 by_cases h0:s.size=0
 ·have he:s.toList=[]:=by rw[bl_toList,bl_nil s h0]
  have E:=hid (undec_bad (decB_nil h0))
  go_enter Tryz.func139,Tryz.ntmps139
  go_wp2_with fail
  go_ret2
  exact⟨by unfold undecV;rw[E.out.1,E.out.2];rfl,rfl⟩
 have hpos:0<s.size:=by omega
 have he:s.toList.isEmpty=false:=by rw[bl_toList,bl_isEmpty];exact dF (by omega)
 have he1:¬ s.toList=[]:=by intro h;rw[h] at he;simp at he
 by_cases h1:1<s.size∧s[0]=48
 ·obtain⟨h1,h2⟩:=h1
  have E:=hid (undec_bad (decB_nought h1 h2))
  have hc:((s[0].toNat:Int)==48)=true:=by rw[h2];rfl
  clear h2
  go_enter Tryz.func139,Tryz.ntmps139
  go_wp2_with fail
  go_ret2
  exact⟨by unfold undecV;rw[E.out.1,E.out.2];rfl,rfl⟩
 have EA:=hid (decB_all hpos h1)
 have walk:∀ (hc:decide (1<(s.size:Int))=false∨(decide (1<(s.size:Int))=true∧((s[0].toNat:Int)==48)=false)),Calls Tryz.prog 139 #[.string s] w fun e w'=>e=.returned (undecV (bl s))∧w=w':=by
  intro hc
  rcases hc with hc | ⟨hc1,hc⟩
  all_goals
   go_enter Tryz.func139,Tryz.ntmps139
   go_wp2_with fail
   clear he he1 hc
   go_loop [4,5,22] (fun n lg i=>∃ (k:Nat) (m:Int) (b:Bool),k≤s.size∧i=.int .i64 k∧n=.int .i64 m∧lg=.bool b∧0≤m∧m≤4611686018427387903∧Hid (((bl s).take k).all digB=true)∧Hid (b=false→m=decVal ((bl s).take k))∧Hid (b=true→bigN<decVal ((bl s).take k))) (fun _ _ i=>s.size-(intOf i).toNat)
   case atStart=>exact⟨0,0,false,z0,rfl,rfl,rfl,by omega,by omega,by simp[Hid],hid (fun _=>by simp[decVal]),hid (fun h=>by cases h)⟩
   case round=>
    obtain⟨k,m,b,hk,rfl,rfl,rfl,m0,m1,HA,HV,HL⟩:=hrel
    by_cases hlt:k<s.size
    ·by_cases hd:48≤s[k].toNat∧s[k].toNat≤57
     ·obtain⟨d0,d1⟩:=hd
      have HD:Hid (digB s[k]=true):=dT ⟨d0,d1⟩
      have HN:=hid (decVal_take s k hlt)
      have HA2:Hid (((bl s).take (k+1)).all digB=true):=by show _=_;rw[bl_take_all s k hlt,HA.out,HD.out];rfl
      cases b
      ·by_cases hb:m > (4611686018427387903-((s[k].toNat:Int)-48)) / 10
       ·go_wp2_with fail
        go_round
        case rel=>exact⟨k+1,m,true,by omega,by go_num,rfl,rfl,m0,m1,HA2,hid (fun h=>by cases h),hid (fun _=>by rw[HN.out,←HV.out rfl];unfold bigN;omega)⟩
        case measure=>simp[intOf];omega
       ·go_wp2_with fail
        go_round
        case rel=>exact⟨k+1,_,false,by omega,by go_num,rfl,rfl,by omega,by omega,HA2,hid (fun _=>by rw[HN.out,←HV.out rfl]),hid (fun h=>by cases h)⟩
        case measure=>simp[intOf];omega
      ·go_wp2_with fail
       go_round
       case rel=>exact⟨k+1,m,true,by omega,by go_num,rfl,rfl,m0,m1,HA2,hid (fun h=>by cases h),hid (fun _=>by rw[HN.out];have:=HL.out rfl;unfold bigN at *;omega)⟩
       case measure=>simp[intOf];omega
     ·have E:=hid (undec_bad (show decB (bl s)=false by rw[EA.out];exact bl_all_false s k hlt (dF hd)))
      by_cases hd1:s[k].toNat<48
      ·go_wp2_with fail
       go_ret2
       exact⟨by unfold undecV;rw[E.out.1,E.out.2];rfl,rfl⟩
      ·have hd2:57<s[k].toNat:=by omega
       go_wp2_with fail
       go_ret2
       exact⟨by unfold undecV;rw[E.out.1,E.out.2];rfl,rfl⟩
    ·have hall:decB (bl s)=true:=by rw[EA.out];have:=HA.out;rw[bl_take_ge s k (by omega)] at this;exact this
     have hval:(bl s).take k=bl s:=bl_take_ge s k (by omega)
     cases b
     ·have hv:=HV.out rfl
      rw[hval] at hv
      have E:=hid (undec_ok hall (by rw[←hv];unfold bigN;omega))
      have HVV:=hid hv
      clear hall hval hv
      go_wp2_with fail
      go_ret2
      exact⟨by unfold undecV;rw[E.out.1,E.out.2,←HVV.out];rfl,rfl⟩
     ·have hv:=HL.out rfl
      rw[hval] at hv
      have E:=hid (undec_big hall (by omega))
      clear hall hval hv
      go_wp2_with fail
      go_ret2
      exact⟨by unfold undecV;rw[E.out.1,E.out.2];rfl,rfl⟩
 by_cases h2:1<s.size
 ·exact walk (.inr ⟨dT (by omega),by simp only[bF,ne_eq];intro h;apply h1;refine⟨h2,UInt8.toNat_inj.1 ?_⟩;show _=48;omega⟩)
 ·exact walk (.inl (dF (by omega)))
theorem r12_digit (c:UInt8)(w:World):
  Calls Tryz.prog 147 #[.int .u8 c.toNat] w fun e w'=>e=.returned (.bool (digB c))∧w=w':=by
 go_enter Tryz.func147,Tryz.ntmps147
 go_wp2
 all_goals (go_ret;refine⟨ret_bool ?_,rfl⟩;rw[bI];simp[digB];omega)
theorem r12_letter (c:UInt8)(w:World):
  Calls Tryz.prog 206 #[.int .u8 c.toNat] w fun e w'=>e=.returned (.bool (letB c))∧w=w':=by
 go_enter Tryz.func206,Tryz.ntmps206
 go_wp2
 all_goals (go_ret;refine⟨ret_bool ?_,rfl⟩;rw[bI];simp[letB,smlB,capB];omega)
theorem toNat_beq (a b:UInt8):(((a.toNat:Nat):Int)==((b.toNat:Nat):Int))=(a==b):=by
 rw[bI];simp[←UInt8.toNat_inj];omega
theorem r12_in (c:UInt8)(s:BA)(w:World)(hs:s.size≤9223372036854775807):
  Calls Tryz.prog 207 #[.int .u8 c.toNat,.string s] w fun e w'=>e=.returned (.bool ((bl s).contains c))∧w=w':=by
 obtain⟨r,hr⟩:∃ r,(bl s).contains c=r:=⟨_,rfl⟩
 rw[hr]
 have HR:=hid hr;clear hr
 go_enter Tryz.func207,Tryz.ntmps207
 go_wp2
 go_loop [5] (fun i=>∃ k:Nat,k≤s.size∧i=.int .i64 k∧Hid (((bl s).take k).contains c=false)) (fun i=>s.size-(intOf i).toNat)
 case atStart=>exact⟨0,z0,rfl,by simp[Hid]⟩
 case round=>
  obtain⟨k,hk,rfl,hw⟩:=hrel
  by_cases hlt:k<s.size
  ·cases hc:(((s[k].toNat:Nat):Int)==((c.toNat:Nat):Int))
   ·have HC:=hid hc
    go_wp2
    go_round
    case rel=>exact⟨k+1,by omega,by go_num,contains_take_next s c k hlt hw.out (by rw[←toNat_beq];exact HC.out)⟩
    case measure=>simp[intOf];omega
   ·have HC:=hid hc
    go_wp2
    go_ret
    refine⟨ret_bool ?_,rfl⟩
    rw[←HR.out]
    exact(contains_at s c k hlt (by have:=HC.out;rw[toNat_beq] at this;simpa using this)).symm
  ·go_wp2
   go_ret
   refine⟨ret_bool ?_,rfl⟩
   have:=hw.out
   rw[bl_take_ge s k (by omega)] at this
   rw[←HR.out,this]
theorem vmade_next (o:LU)(s:BA)(k:Nat)(h:k<s.size)(h0:((bl s).take k).all (vchB o)=true)(h1:vchB o s[k]=true):((bl s).take (k+1)).all (vchB o)=true:=by rw[bl_take_all s k h,h0,h1];rfl
theorem vmade_bad (o:LU)(s:BA)(k:Nat)(h:k<s.size)(h1:vchB o s[k]=false):vmadeB o (bl s)=false:=by
 unfold vmadeB;rw[bl_all_false s k h h1];simp
theorem vmade_good (o:LU)(s:BA)(k:Nat)(h:¬ k<s.size)(h0:((bl s).take k).all (vchB o)=true):vmadeB o (bl s)=decide (0<s.size):=by
 unfold vmadeB;rw[bl_take_ge s k (by omega)] at h0;rw[h0,bl_isEmpty,pos_not_zero]
theorem r12_in_is (c:UInt8)(s:BA)(b:Bool)(w:World)(hs:s.size≤9223372036854775807)(h:Hid ((bl s).contains c=b)):
  Calls Tryz.prog 207 #[.int .u8 c.toNat,.string s] w fun e w'=>e=.returned (.bool b)∧w=w':=by rw[←h.out];exact r12_in c s w hs
theorem r12_made (s o:BA)(w:World)(hs:s.size≤9223372036854775807)(ho:o.size≤9223372036854775807):
  Calls Tryz.prog 146 #[.string s,.string o] w fun e w'=>e=.returned (.bool (vmadeB (bl o) (bl s)))∧w=w':=by
 go_enter Tryz.func146,Tryz.ntmps146
 go_wp2
 go_loop [5] (fun i=>∃ k:Nat,k≤s.size∧i=.int .i64 k∧Hid (((bl s).take k).all (vchB (bl o))=true)) (fun i=>s.size-(intOf i).toNat)
 case atStart=>exact⟨0,z0,rfl,by simp[Hid]⟩
 case round=>
  obtain⟨k,hk,rfl,hw⟩:=hrel
  by_cases hlt:k<s.size
  ·cases h1:digB s[k]
   ·cases h2:letB s[k]
    ·cases h3:(bl o).contains s[k]
     ·have HV:Hid (vchB (bl o) s[k]=false):=by show _=_;unfold vchB;rw[h1,h2,h3];rfl
      have H1:=hid h1;have H2:=hid h2;have H3:=hid h3;clear h1 h2 h3
      go_wp2_with fail
      refine(r12_digit s[k] _).mono ?_;rintro e w' ⟨rfl,rfl⟩
      rw[H1.out]
      go_wp2_with fail
      refine(r12_letter s[k] _).mono ?_;rintro e w' ⟨rfl,rfl⟩
      rw[H2.out]
      go_wp2_with fail
      refine(r12_in_is s[k] o false _ ho H3).mono ?_;rintro e w' ⟨rfl,rfl⟩
      go_wp2_with fail
      go_ret
      exact⟨ret_bool (vmade_bad _ s k hlt HV.out).symm,rfl⟩
     ·have HV:Hid (vchB (bl o) s[k]=true):=by show _=_;unfold vchB;rw[h1,h2,h3];rfl
      have H1:=hid h1;have H2:=hid h2;have H3:=hid h3;clear h1 h2 h3
      go_wp2_with fail
      refine(r12_digit s[k] _).mono ?_;rintro e w' ⟨rfl,rfl⟩
      rw[H1.out]
      go_wp2_with fail
      refine(r12_letter s[k] _).mono ?_;rintro e w' ⟨rfl,rfl⟩
      rw[H2.out]
      go_wp2_with fail
      refine(r12_in_is s[k] o true _ ho H3).mono ?_;rintro e w' ⟨rfl,rfl⟩
      go_wp2_with fail
      go_round
      case rel=>exact⟨k+1,by omega,by go_num,vmade_next _ s k hlt hw.out HV.out⟩
      case measure=>simp[intOf];omega
    ·have HV:Hid (vchB (bl o) s[k]=true):=by show _=_;unfold vchB;rw[h2];rfl
     have H1:=hid h1;have H2:=hid h2;clear h1 h2
     go_wp2_with fail
     refine(r12_digit s[k] _).mono ?_;rintro e w' ⟨rfl,rfl⟩
     rw[H1.out]
     go_wp2_with fail
     refine(r12_letter s[k] _).mono ?_;rintro e w' ⟨rfl,rfl⟩
     rw[H2.out]
     go_wp2_with fail
     go_round
     case rel=>exact⟨k+1,by omega,by go_num,vmade_next _ s k hlt hw.out HV.out⟩
     case measure=>simp[intOf];omega
   ·have HV:Hid (vchB (bl o) s[k]=true):=by show _=_;unfold vchB;rw[h1];simp
    have H1:=hid h1;clear h1
    go_wp2_with fail
    refine(r12_digit s[k] _).mono ?_;rintro e w' ⟨rfl,rfl⟩
    rw[H1.out]
    go_wp2_with fail
    go_round
    case rel=>exact⟨k+1,by omega,by go_num,vmade_next _ s k hlt hw.out HV.out⟩
    case measure=>simp[intOf];omega
  ·go_wp2_with fail
   go_ret
   exact⟨ret_bool (vmade_good _ s k hlt hw.out).symm,rfl⟩
end
end Go.Proofs.YtdfdllbebfoggaaGreatDoor
