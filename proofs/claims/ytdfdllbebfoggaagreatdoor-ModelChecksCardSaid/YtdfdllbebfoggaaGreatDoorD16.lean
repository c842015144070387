/- A part of the proof that ModelChecks holds. No condition. -/
import Derived.Deep.Fields
import Derived.Deep.Slices
import Derived.Test.YtdfdllbebfoggaaGreatDoorD05
set_option maxRecDepth 100000
set_option maxHeartbeats 20000000
set_option linter.unusedVariables false
set_option linter.unusedSimpArgs false
namespace Go.Proofs.YtdfdllbebfoggaaGreatDoor
section
open Go.RowKit
def aFirst (c:UInt8):Bool:=letB c||digB c||c==46||c==95||c==47
def aNext (c:UInt8):Bool:=aFirst c||c==43||c==45||c==58||c==64
def anameB (l:LU):Bool:=decide (1≤l.length∧l.length≤64)&&(match l with | c::_=>aFirst c | []=>false)&&l.all aNext
theorem of_bytes (p:UInt8→Bool)(h:(List.range 256).all (fun n=>p (UInt8.ofNat n))=true)(c:UInt8):p c=true:=by
 have:=List.all_eq_true.1 h c.toNat (List.mem_range.2 c.toNat_lt)
 simpa using this
theorem a_others (c:UInt8)(h1:letB c=false)(h2:digB c=false):(bl ⟨#[46,95,43,45,58,47,64]⟩).contains c=aNext c:=by
 simp only[aNext,aFirst,h1,h2,bl]
 rw[bI]
 simp
 grind
theorem a_head (c:UInt8)(h:aNext c=true):(bl ⟨#[45,43,58,64]⟩).contains c=!aFirst c:=by
 exact of_bytes (fun c=>!aNext c||((bl ⟨#[45,43,58,64]⟩).contains c == !aFirst c)) (by kernel_rfl) c |> fun hh=>by simpa [h] using hh
theorem aname_bad (s:BA)(k:Nat)(h:k<s.size)(h1:aNext s[k]=false):anameB (bl s)=false:=by
 have:(bl s).all aNext=false:=by
  rw[List.all_eq_false]
  exact⟨s[k],gM (bl_get? s k h),by rw[h1];simp⟩
 unfold anameB;rw[this,Bool.and_false]
theorem aname_good (s:BA)(k:Nat)(h:¬ k<s.size)(h0:0<s.size)(h64:s.size≤64)(hf:(bl ⟨#[45,43,58,64]⟩).contains s[0]=false)(ha:((bl s).take k).all aNext=true):anameB (bl s)=true:=by
 rw[tL (by rw[bl_length];omega)] at ha
 have hc:=bl_cons s h0
 have h1:aNext s[0]=true:=by rw[hc,List.all_cons,Bool.and_eq_true] at ha;exact ha.1
 have h2:aFirst s[0]=true:=by have:=a_head s[0] h1;rw[hf] at this;simpa using this.symm
 unfold anameB
 rw[ha,bl_length,dT ⟨by omega,h64⟩]
 rw[hc]
 simp[h2]
theorem aname_head (s:BA)(h0:0<s.size)(hf:(bl ⟨#[45,43,58,64]⟩).contains s[0]=true):anameB (bl s)=false:=by
 cases hn:aNext s[0] with
 | false=>exact aname_bad s 0 h0 hn
 | true=>
  have h2:aFirst s[0]=false:=by have:=a_head s[0] hn;rw[hf] at this;simpa using this.symm
  unfold anameB
  rw[bl_cons s h0]
  simp[h2]
theorem aname_size (s:BA)(h:¬ (1≤s.size∧s.size≤64)):anameB (bl s)=false:=by
 unfold anameB;rw[bl_length,dF h];rfl
theorem adep_Name (s:BA)(w:World)(hs:s.size≤9223372036854775807):
  Calls Tryz.prog 93 #[.string s] w fun e w'=>e=.returned (.bool (anameB (bl s)))∧w=w':=by
 by_cases h0:s.size=0
 ·have he:s.toList=[]:=by rw[bl_toList,bl_nil s h0]
  have he2:s.toList.isEmpty=true:=by rw[he];rfl
  have E:Hid (anameB (bl s)=false):=aname_size s (by omega)
  go_enter Tryz.func93,Tryz.ntmps93
  go_wp2_with fail
  go_ret
  exact⟨ret_bool E.out.symm,rfl⟩
 have hp:0<s.size:=by omega
 have he2:s.toList.isEmpty=false:=by rw[bl_toList,bl_isEmpty];exact dF h0
 have he:¬ s.toList=[]:=by intro h;rw[h] at he2;simp at he2
 by_cases h64:64<s.size
 ·have E:Hid (anameB (bl s)=false):=aname_size s (by omega)
  go_enter Tryz.func93,Tryz.ntmps93
  go_wp2_with fail
  go_ret
  exact⟨ret_bool E.out.symm,rfl⟩
 cases hf:(bl ⟨#[45,43,58,64]⟩).contains s[0] with
 | true=>
  have hn:=ixB_pos ⟨#[45,43,58,64]⟩ s[0] hf
  have E:Hid (anameB (bl s)=false):=aname_head s hp hf
  clear hf
  go_enter Tryz.func93,Tryz.ntmps93
  go_wp2_with (go_at_call 82;refine(IndexByte_any _ s[0] _).mono ?_;rintro e w' ⟨rfl,rfl⟩)
  go_ret
  exact⟨ret_bool E.out.symm,rfl⟩
 | false=>
  have hn:=ixB_neg ⟨#[45,43,58,64]⟩ s[0] hf
  have HF:=hid hf
  clear hf
  go_enter Tryz.func93,Tryz.ntmps93
  go_wp2_with (go_at_call 82;refine(IndexByte_any _ s[0] _).mono ?_;rintro e w' ⟨rfl,rfl⟩)
  go_loop [21] (fun i=>∃ k:Nat,k≤s.size∧i=.int .i64 k∧Hid (((bl s).take k).all aNext=true)) (fun i=>s.size-(intOf i).toNat)
  case atStart=>exact⟨0,z0,rfl,by simp[Hid]⟩
  case round=>
   obtain⟨k,hk,rfl,HA⟩:=hrel
   by_cases hlt:k<s.size
   ·go_upto_region 7 with(fail)
    go_cut [5] (fun v wx=>v=.bool (letB s[k])∧w=wx)
    case first=>
     go_wp2_with fail
     all_goals go_meet
     all_goals (refine⟨?_,rfl⟩;congr 1;rw[bI];simp[letB,smlB,capB];omega)
    case rest=>
    obtain⟨rfl,rfl⟩:=hcut
    have IB:=fun W=>IndexByte_any ⟨#[46,95,43,45,58,47,64]⟩ s[k] W
    cases hl:letB s[k] with
    | true=>
     have HN:Hid (aNext s[k]=true):=by show _=_;simp[aNext,aFirst,hl]
     clear hl
     go_wp2_with fail
     go_round
     case rel=>exact⟨k+1,by omega,by go_num,by show _=_;rw[bl_take_all s k hlt,HA.out,HN.out];rfl⟩
     case measure=>simp[intOf];omega
    | false=>
     by_cases hd:48≤s[k].toNat∧s[k].toNat≤57
     ·obtain⟨d1,d2⟩:=hd
      have HN:Hid (aNext s[k]=true):=by show _=_;simp[aNext,aFirst,digB,d1,d2]
      clear hl
      go_wp2_with fail
      go_round
      case rel=>exact⟨k+1,by omega,by go_num,by show _=_;rw[bl_take_all s k hlt,HA.out,HN.out];rfl⟩
      case measure=>simp[intOf];omega
     ·have hdg:digB s[k]=false:=dF hd
      have hco:=a_others s[k] hl hdg
      cases hn2:aNext s[k] with
      | true=>
       have hx:=ixB_pos ⟨#[46,95,43,45,58,47,64]⟩ s[k] (by rw[hco,hn2])
       have HN:=hid hn2
       clear hl hco hn2 hdg IB
       by_cases d1:s[k].toNat<48
       ·clear hd
        go_wp2_with (go_at_call 82;refine(IndexByte_any _ s[k] _).mono ?_;rintro e w' ⟨rfl,rfl⟩)
        go_round
        case rel=>exact⟨k+1,by omega,by go_num,by show _=_;rw[bl_take_all s k hlt,HA.out,HN.out];rfl⟩
        case measure=>simp[intOf];omega
       ·have d2:57<s[k].toNat:=by omega
        clear hd
        go_wp2_with (go_at_call 82;refine(IndexByte_any _ s[k] _).mono ?_;rintro e w' ⟨rfl,rfl⟩)
        go_round
        case rel=>exact⟨k+1,by omega,by go_num,by show _=_;rw[bl_take_all s k hlt,HA.out,HN.out];rfl⟩
        case measure=>simp[intOf];omega
      | false=>
       have hx:=ixB_neg ⟨#[46,95,43,45,58,47,64]⟩ s[k] (by rw[hco,hn2])
       have E:Hid (anameB (bl s)=false):=aname_bad s k hlt hn2
       clear hl hco hn2 hdg IB
       by_cases d1:s[k].toNat<48
       ·clear hd
        go_wp2_with (go_at_call 82;refine(IndexByte_any _ s[k] _).mono ?_;rintro e w' ⟨rfl,rfl⟩)
        go_ret
        exact⟨ret_bool E.out.symm,rfl⟩
       ·have d2:57<s[k].toNat:=by omega
        clear hd
        go_wp2_with (go_at_call 82;refine(IndexByte_any _ s[k] _).mono ?_;rintro e w' ⟨rfl,rfl⟩)
        go_ret
        exact⟨ret_bool E.out.symm,rfl⟩
   ·go_wp2_with fail
    go_ret
    exact⟨ret_bool (aname_good s k hlt hp (by omega) HF.out HA.out).symm,rfl⟩
theorem bneI {a:Nat}{b:Int}(h:(a:Int)≠b):((a:Int) != b)=true:=by simp[bne,h]
def aHead:LU→Bool
 | c::_=>aFirst c
 | []=>false
theorem anameB_eq (l:LU):anameB l=(decide (1≤l.length∧l.length≤64)&&aHead l&&l.all aNext):=by cases l<;>rfl
def aAt (l:LU)(k:Nat):Bool:=(l.take k).all aNext&&(decide (k=0)||aHead l)
theorem aname_at (s:BA)(k:Nat)(h:¬ k<s.size)(hk:k≤s.size)(ha:aAt (bl s) k=true):anameB (bl s)=decide (1≤s.size∧s.size≤64):=by
 obtain rfl:k=s.size:=by omega
 by_cases h1:1≤s.size∧s.size≤64
 ·unfold aAt at ha
  rw[tL (by rw[bl_length];omega),Bool.and_eq_true] at ha
  rw[anameB_eq,bl_length,ha.1]
  have h2:=ha.2
  rw[dF (by omega),Bool.false_or] at h2
  rw[h2];simp
 ·rw[aname_size s h1,dF h1]
theorem aAt_step (s:BA)(k:Nat)(h:k<s.size)(ha:aAt (bl s) k=true)(h1:aNext s[k]=true)(h2:k=0→aFirst s[k]=true):aAt (bl s) (k+1)=true:=by
 unfold aAt at ha ⊢
 rw[Bool.and_eq_true] at ha
 rw[bl_take_all s k h,ha.1,h1]
 by_cases k0:k=0
 ·subst k0;rw[bl_cons s h];simp[aHead,h2 rfl]
 ·have:=ha.2;rw[dF k0,Bool.false_or] at this;simp[this]
theorem aAt_bad0 (s:BA)(h:0<s.size)(h1:aFirst s[0]=false):anameB (bl s)=false:=by
 rw[anameB_eq,bl_cons s h];simp[aHead,h1]
theorem r16_Name (s:BA)(w:World)(hs:s.size≤9223372036854775807):
  Calls Tryz.prog 102 #[.string s] w fun e w'=>e=.returned (.bool (anameB (bl s)))∧w=w':=by
 go_enter Tryz.func102,Tryz.ntmps102
 go_wp2_with fail
 go_loop [3] (fun i=>∃ k:Nat,k≤s.size∧i=.int .i64 k∧Hid (aAt (bl s) k=true)) (fun i=>s.size-(intOf i).toNat)
 case atStart=>exact⟨0,z0,rfl,by simp[Hid,aAt]⟩
 case round=>
  obtain⟨k,hk,rfl,HA⟩:=hrel
  by_cases hlt:k<s.size
  ·obtain⟨c,hc⟩:∃ c:UInt8,s[k]=c:=⟨_,rfl⟩
   have hcc:∀ n:UInt8,c=n↔c.toNat=n.toNat:=fun n=>UInt8.toNat_inj.symm
   have STEP:=hid (aAt_step s k hlt HA.out)
   have BAD:=hid (aname_bad s k hlt)
   have BAD0:Hid (k=0→aFirst c=false→anameB (bl s)=false):=by
    intro k0 h;subst k0;exact aAt_bad0 s hlt (by rw[hc];exact h)
   rw[hc] at STEP BAD
   go_upto_region 5 with(fail)
   go_cut [4,5] (fun u v wx=>u=.int .u8 c.toNat∧v=.bool (aFirst c)∧w=wx)
   case first=>
    go_wp2_with fail
    all_goals go_meet
    all_goals (refine⟨by first | rfl | (congr 1;omega),?_,rfl⟩;congr 1;rw[bI];simp[aFirst,letB,smlB,capB,digB,hcc];omega)
   case rest=>
   obtain⟨rfl,rfl,rfl⟩:=hcut
   clear hc
   cases hf:aFirst c with
   | true=>
    have HN:Hid (aAt (bl s) (k+1)=true):=STEP.out (by simp[aNext,hf]) (fun _=>hf)
    clear hf
    go_wp2_with fail
    go_round
    case rel=>exact⟨k+1,by omega,by go_num,HN⟩
    case measure=>simp[intOf];omega
   | false=>
    by_cases k0:k=0
    ·have E:=hid (BAD0.out k0 hf)
     have k1:((k:Int)==0)=true:=by simpa using k0
     clear hf
     go_wp2_with fail
     go_ret
     exact⟨ret_bool E.out.symm,rfl⟩
    ·have k1:((k:Int)==0)=false:=by simpa using k0
     cases hn:aNext c with
     | true=>
      have HN:Hid (aAt (bl s) (k+1)=true):=STEP.out hn (fun h=>absurd h k0)
      have hq:c.toNat=43∨c.toNat=45∨c.toNat=58∨c.toNat=64:=by
       simp only[aNext,hf,Bool.false_or,Bool.or_eq_true,beq_iff_eq,hcc] at hn
       revert hn;simp;omega
      clear hf hn
      rcases hq with h | h | h | h
      ·go_wp2_with fail
       go_round
       case rel=>exact⟨k+1,by omega,by go_num,HN⟩
       case measure=>simp[intOf];omega
      ·go_wp2_with fail
       go_round
       case rel=>exact⟨k+1,by omega,by go_num,HN⟩
       case measure=>simp[intOf];omega
      ·go_wp2_with fail
       go_round
       case rel=>exact⟨k+1,by omega,by go_num,HN⟩
       case measure=>simp[intOf];omega
      ·go_wp2_with fail
       go_round
       case rel=>exact⟨k+1,by omega,by go_num,HN⟩
       case measure=>simp[intOf];omega
     | false=>
      have E:=hid (BAD.out hn)
      have hq:c.toNat≠43∧c.toNat≠45∧c.toNat≠58∧c.toNat≠64:=by
       simp only[aNext,hf,Bool.false_or,Bool.or_eq_false_iff,bF,ne_eq,hcc] at hn
       revert hn;simp;omega
      obtain⟨q1,q2,q3,q4⟩:=hq
      have b1:=bneI (b:=43) (by omega:(c.toNat:Int)≠43)
      have b2:=bneI (b:=45) (by omega:(c.toNat:Int)≠45)
      have b3:=bneI (b:=58) (by omega:(c.toNat:Int)≠58)
      have b4:=bneI (b:=64) (by omega:(c.toNat:Int)≠64)
      clear q1 q2 q3 q4
      clear hf hn
      go_wp2_with fail
      go_ret
      exact⟨ret_bool E.out.symm,rfl⟩
  ·have E:=hid (aname_at s k hlt hk HA.out)
   go_wp2_with fail
   all_goals go_ret
   all_goals (refine⟨ret_bool ?_,rfl⟩;rw[E.out];rw[bI];simp;omega)
def rOther (c:UInt8):Bool:=letB c||digB c||c==46||c==95||c==43||c==45||c==47||c==58
def rPlain (c:UInt8):Bool:=letB c||digB c||c==47
def rHead:LU→Bool
 | c::_=>rPlain c
 | []=>false
def rStep (o:Option Nat)(c:UInt8):Option Nat:=match o with
 | none=>none
 | some n=>if c==40 then some (n+1) else if c==41 then (if n=0 then none else some (n-1)) else if rOther c then some n else none
def rnameB (l:LU):Bool:=decide (1≤l.length∧l.length≤64)&&rHead l&&decide (l.foldl rStep (some 0)=some 0)
theorem rStep_none:∀ l:LU,l.foldl rStep none=none
 | []=>rfl
 | _::r=>rStep_none r
theorem foldl_take {α:Type}(f:α→UInt8→α)(z:α)(s:BA)(k:Nat)(h:k<s.size):((bl s).take (k+1)).foldl f z=f (((bl s).take k).foldl f z) s[k]:=by
 rw[tS (by rw[bl_length];exact h),List.foldl_append,bl_get s k h];rfl
theorem rname_bad (s:BA)(k n:Nat)(h:k<s.size)(h0:((bl s).take k).foldl rStep (some 0)=some n)(h1:rStep (some n) s[k]=none):rnameB (bl s)=false:=by
 have h2:=foldl_take rStep (some 0) s k h
 rw[h0,h1] at h2
 have:(bl s).foldl rStep (some 0)=none:=by
  rw[←List.take_append_drop (k+1) (bl s),List.foldl_append,h2,rStep_none]
 unfold rnameB;rw[this];simp
theorem rname_next (s:BA)(k n m:Nat)(h:k<s.size)(h0:((bl s).take k).foldl rStep (some 0)=some n)(h1:rStep (some n) s[k]=some m):((bl s).take (k+1)).foldl rStep (some 0)=some m:=by
 rw[foldl_take rStep (some 0) s k h,h0,h1]
theorem rname_end (s:BA)(k n:Nat)(h:¬ k<s.size)(h0:((bl s).take k).foldl rStep (some 0)=some n)(h1:1≤s.size)(h2:s.size≤64)(h3:rHead (bl s)=true):rnameB (bl s)=decide (n=0):=by
 rw[tL (by rw[bl_length];omega)] at h0
 unfold rnameB;rw[h0,h3,bl_length,dT ⟨h1,h2⟩];simp
theorem rname_size (s:BA)(h:¬ (1≤s.size∧s.size≤64)):rnameB (bl s)=false:=by
 unfold rnameB;rw[bl_length,dF h];rfl
theorem rname_head (s:BA)(h:rHead (bl s)=false):rnameB (bl s)=false:=by
 unfold rnameB;rw[h];simp
theorem rHead_pos (s:BA)(h:0<s.size):rHead (bl s)=rPlain s[0]:=by rw[bl_cons s h];rfl
theorem r_others (c:UInt8)(h1:letB c=false)(h2:digB c=false):(bl ⟨#[46,95,43,45,47,58]⟩).contains c=rOther c:=by
 exact of_bytes (fun c=>letB c||digB c||((bl ⟨#[46,95,43,45,47,58]⟩).contains c==rOther c)) (by kernel_rfl) c |> fun hh=>by simpa [h1,h2] using hh
theorem rdep_letter (c:UInt8)(w:World):Calls Tryz.prog 135 #[.int .u8 c.toNat] w fun e w'=>e=.returned (.bool (letB c))∧w=w':=by
 go_enter Tryz.func135,Tryz.ntmps135
 go_wp2_with fail
 all_goals go_ret
 all_goals (refine⟨ret_bool ?_,rfl⟩;rw[bI];simp[letB,smlB,capB];omega)
theorem rdep_digit (c:UInt8)(w:World):Calls Tryz.prog 136 #[.int .u8 c.toNat] w fun e w'=>e=.returned (.bool (digB c))∧w=w':=by
 go_enter Tryz.func136,Tryz.ntmps136
 go_wp2_with fail
 all_goals go_ret
 all_goals (refine⟨ret_bool ?_,rfl⟩;rw[bI];simp[digB];omega)
theorem r15_Name (s:BA)(w:World)(hs:s.size≤9223372036854775807):
  Calls Tryz.prog 103 #[.string s] w fun e w'=>e=.returned (.bool (rnameB (bl s)))∧w=w':=by
 by_cases h0:s.size<1
 ·have E:Hid (rnameB (bl s)=false):=rname_size s (by omega)
  go_enter Tryz.func103,Tryz.ntmps103
  go_wp2_with fail
  go_ret
  exact⟨ret_bool E.out.symm,rfl⟩
 by_cases h64:64<s.size
 ·have E:Hid (rnameB (bl s)=false):=rname_size s (by omega)
  go_enter Tryz.func103,Tryz.ntmps103
  go_wp2_with fail
  go_ret
  exact⟨ret_bool E.out.symm,rfl⟩
 have hp:0<s.size:=by omega
 have HH:=hid (rHead_pos s hp)
 go_enter Tryz.func103,Tryz.ntmps103
 go_wp2_with fail
 go_loop [3,4] (fun o i=>∃ k n:Nat,k≤s.size∧n≤k∧o=.int .i64 n∧i=.int .i64 k∧Hid (((bl s).take k).foldl rStep (some 0)=some n)∧Hid (0<k→rHead (bl s)=true)) (fun _ i=>s.size-(intOf i).toNat)
 case atStart=>exact⟨0,0,z0,lr,rfl,rfl,by simp[Hid],fun h=>absurd h (Nat.lt_irrefl 0)⟩
 case round=>
  obtain⟨k,n,hk,hn,rfl,rfl,HA,HK⟩:=hrel
  by_cases hlt:k<s.size
  ·obtain⟨c,hc⟩:∃ c:UInt8,s[k]=c:=⟨_,rfl⟩
   have NX:=hid (fun m=>rname_next s k n m hlt HA.out)
   have BD:=hid (rname_bad s k n hlt HA.out)
   have H0:Hid (k=0→rHead (bl s)=rPlain c):=by intro k0;rw[HH.out];subst k0;rw[hc]
   rw[hc] at NX BD
   have hcc:∀ n:UInt8,c=n↔c.toNat=n.toNat:=fun n=>UInt8.toNat_inj.symm
   go_upto_region 8 with(fail)
   go_cut [5,48] (fun u v wx=>u=.int .u8 c.toNat∧v=.bool (rPlain c)∧w=wx)
   case first=>
    go_wp2_with fail
    all_goals go_meet
    all_goals (refine⟨by first | rfl | (congr 1;omega),?_,rfl⟩;congr 1;rw[bI];simp[rPlain,letB,smlB,capB,digB,hcc];omega)
   case rest=>
   obtain⟨rfl,rfl,rfl⟩:=hcut
   clear hc
   cases hp0:rPlain c with
   | true=>
    have ho:rOther c=true:=by simp only[rPlain,Bool.or_eq_true] at hp0;simp only[rOther,Bool.or_eq_true];rcases hp0 with(h | h) | h<;>simp[h]
    have e40:(c==40)=false:=of_bytes (fun c=>!rPlain c || !(c==40)) (by kernel_rfl) c |> fun hh=>by simpa [hp0] using hh
    have e41:(c==41)=false:=of_bytes (fun c=>!rPlain c || !(c==41)) (by kernel_rfl) c |> fun hh=>by simpa [hp0] using hh
    have HN:=hid (NX.out n (by simp[rStep,e40,e41,ho]))
    have HP:Hid (0<k+1→rHead (bl s)=true):=by
     intro _;by_cases k0:k=0
     ·rw[H0.out k0,hp0]
     ·exact HK.out (by omega)
    clear ho e40 e41 hp0
    go_wp2_with fail
    go_round
    case rel=>exact⟨k+1,n,by omega,by omega,by go_num,by go_num,HN,HP⟩
    case measure=>simp[intOf];omega
   | false=>
    by_cases k0:k=0
    ·have E:Hid (rnameB (bl s)=false):=rname_head s (by rw[H0.out k0,hp0])
     have k1:((k:Int)==0)=true:=by simpa using k0
     clear hp0
     go_wp2_with fail
     go_ret
     exact⟨ret_bool E.out.symm,rfl⟩
    have k1:((k:Int)==0)=false:=by simpa using k0
    have HP:Hid (0<k+1→rHead (bl s)=true):=fun _=>HK.out (by omega)
    by_cases c40:c.toNat=40
    ·have e40:(c==40)=true:=by rw[beq_iff_eq,hcc];exact c40
     have HN:=hid (NX.out (n+1) (by simp[rStep,e40]))
     clear e40 hp0
     go_wp2_with fail
     go_round
     case rel=>exact⟨k+1,n+1,by omega,by omega,by go_num,by go_num,HN,HP⟩
     case measure=>simp[intOf];omega
    have e40:(c==40)=false:=by rw[bF,ne_eq,hcc];exact c40
    by_cases c41:c.toNat=41
    ·have e41:(c==41)=true:=by rw[beq_iff_eq,hcc];exact c41
     by_cases n0:n=0
     ·have E:=hid (BD.out (by simp[rStep,e40,e41,n0]))
      subst n0
      clear e40 e41 hp0
      go_wp2_with fail
      go_ret
      exact⟨ret_bool E.out.symm,rfl⟩
     ·have HN:=hid (NX.out (n-1) (by simp[rStep,e40,e41,n0]))
      obtain⟨m,rfl⟩:∃ m,n=m+1:=⟨n-1,by omega⟩
      clear e40 e41 hp0
      go_wp2_with fail
      go_round
      case rel=>exact⟨k+1,m,by omega,by omega,by go_num,by go_num,HN,HP⟩
      case measure=>simp[intOf];omega
    have e41:(c==41)=false:=by rw[bF,ne_eq,hcc];exact c41
    have OT:rOther c=(c==46||c==95||c==43||c==45||c==58):=
     of_bytes (fun c=>rPlain c||(rOther c==(c==46||c==95||c==43||c==45||c==58))) (by kernel_rfl) c |> fun hh=>by simpa [hp0] using hh
    cases ho:rOther c with
    | true=>
     have HN:=hid (NX.out n (by simp[rStep,e40,e41,ho]))
     have hq:c.toNat=46∨c.toNat=95∨c.toNat=43∨c.toNat=45∨c.toNat=58:=by
      rw[ho] at OT;replace OT:=OT.symm
      simp only[Bool.or_eq_true,beq_iff_eq,hcc] at OT
      revert OT;simp;omega
     clear ho e40 e41 OT hp0
     rcases hq with h | h | h | h | h
     ·go_wp2_with fail
      go_round
      case rel=>exact⟨k+1,n,by omega,by omega,by go_num,by go_num,HN,HP⟩
      case measure=>simp[intOf];omega
     ·go_wp2_with fail
      go_round
      case rel=>exact⟨k+1,n,by omega,by omega,by go_num,by go_num,HN,HP⟩
      case measure=>simp[intOf];omega
     ·go_wp2_with fail
      go_round
      case rel=>exact⟨k+1,n,by omega,by omega,by go_num,by go_num,HN,HP⟩
      case measure=>simp[intOf];omega
     ·go_wp2_with fail
      go_round
      case rel=>exact⟨k+1,n,by omega,by omega,by go_num,by go_num,HN,HP⟩
      case measure=>simp[intOf];omega
     ·go_wp2_with fail
      go_round
      case rel=>exact⟨k+1,n,by omega,by omega,by go_num,by go_num,HN,HP⟩
      case measure=>simp[intOf];omega
    | false=>
     have E:=hid (BD.out (by simp[rStep,e40,e41,ho]))
     have hq:c.toNat≠46∧c.toNat≠95∧c.toNat≠43∧c.toNat≠45∧c.toNat≠58:=by
      rw[ho] at OT;replace OT:=OT.symm
      simp only[Bool.or_eq_false_iff,bF,ne_eq,hcc] at OT
      revert OT;simp;omega
     obtain⟨q1,q2,q3,q4,q5⟩:=hq
     have b1:=bneI (b:=46) (by omega:(c.toNat:Int)≠46)
     have b2:=bneI (b:=95) (by omega:(c.toNat:Int)≠95)
     have b3:=bneI (b:=43) (by omega:(c.toNat:Int)≠43)
     have b4:=bneI (b:=45) (by omega:(c.toNat:Int)≠45)
     have b5:=bneI (b:=58) (by omega:(c.toNat:Int)≠58)
     clear q1 q2 q3 q4 q5
     clear ho e40 e41 OT hp0
     go_wp2_with fail
     go_ret
     exact⟨ret_bool E.out.symm,rfl⟩
  ·have E:=hid (rname_end s k n hlt HA.out (by omega) (by omega) (HK.out (by omega)))
   go_wp2_with fail
   go_ret
   exact⟨ret_bool (by rw[E.out,bI];simp),rfl⟩
def inL (l:LU)(c:UInt8):Bool:=l.contains c
def made14 (o s:BA)(lo hi:Nat):Bool:=decide (lo≤s.size∧s.size≤hi)&&dmadeB (bl o) (bl s)
theorem r14_in (c:UInt8)(s:BA)(w:World)(hs:s.size≤9223372036854775807):
  Calls Tryz.prog 142 #[.int .u8 c.toNat,.string s] w fun e w'=>e=.returned (.bool (inL (bl s) c))∧w=w':=by
 go_enter Tryz.func142,Tryz.ntmps142
 go_wp2_with fail
 go_loop [5] (fun i=>∃ k:Nat,k≤s.size∧i=.int .i64 k∧Hid (((bl s).take k).contains c=false)) (fun i=>s.size-(intOf i).toNat)
 case atStart=>exact⟨0,z0,rfl,by simp[Hid]⟩
 case round=>
  obtain⟨k,hk,rfl,HA⟩:=hrel
  by_cases hlt:k<s.size
  ·obtain⟨d,hd⟩:∃ d:UInt8,s[k]=d:=⟨_,rfl⟩
   by_cases hcd:d=c
   ·have E:=hid (contains_at s c k hlt (hd.trans hcd))
    have hq:d.toNat=c.toNat:=by rw[hcd]
    clear hcd
    go_wp2_with fail
    go_ret
    exact⟨ret_bool E.out.symm,rfl⟩
   ·have HN:=hid (contains_take_next s c k hlt HA.out (by rw[hd];simpa using hcd))
    have hq:¬ d.toNat=c.toNat:=fun h=>hcd (UInt8.toNat_inj.1 h)
    clear hcd
    go_wp2_with fail
    go_round
    case rel=>exact⟨k+1,by omega,by go_num,HN⟩
    case measure=>simp[intOf];omega
  ·have E:Hid ((bl s).contains c=false):=by show _=_;rw[←bl_take_ge s k (by omega)];exact HA.out
   go_wp2_with fail
   go_ret
   exact⟨ret_bool E.out.symm,rfl⟩
def dAt (o l:LU)(k:Nat):Bool:=(l.take k).all (fun c=>lowB c||o.contains c)&&(decide (k=0)||startsB l)
theorem dAt_step (o:LU)(s:BA)(k:Nat)(h:k<s.size)(ha:dAt o (bl s) k=true)(h1:(lowB s[k]||o.contains s[k])=true)(h2:k=0→lowB s[k]=true):dAt o (bl s) (k+1)=true:=by
 unfold dAt at ha ⊢
 rw[Bool.and_eq_true] at ha
 rw[dmade_next o s k h ha.1 h1]
 by_cases k0:k=0
 ·subst k0;rw[startsB_pos s h,h2 rfl];simp
 ·have:=ha.2;rw[dF k0,Bool.false_or] at this;simp[this]
theorem dAt_end (o:LU)(s:BA)(k:Nat)(h:¬ k<s.size)(hk:k≤s.size)(h1:1≤s.size)(ha:dAt o (bl s) k=true):dmadeB o (bl s)=true:=by
 unfold dAt at ha
 rw[Bool.and_eq_true] at ha
 rw[dmade_good o s k h ha.1]
 have:=ha.2;rw[dF (by omega),Bool.false_or] at this;exact this
theorem dAt_bad0 (o:LU)(s:BA)(h:0<s.size)(h1:lowB s[0]=false):dmadeB o (bl s)=false:=by
 unfold dmadeB;rw[startsB_pos s h,h1];simp
theorem r14_made (s o:BA)(lo hi:Nat)(w:World)(hs:s.size≤9223372036854775807)(ho:o.size≤9223372036854775807)(hlo:1≤lo)(hlo2:lo≤64)(hhi:hi≤64):
  Calls Tryz.prog 99 #[.string s,.string o,.int .i64 lo,.int .i64 hi] w fun e w'=>e=.returned (.bool (made14 o s lo hi))∧w=w':=by
 by_cases h0:s.size<lo
 ·have E:Hid (made14 o s lo hi=false):=by show _=_;unfold made14;rw[dF (by omega)];rfl
  go_enter Tryz.func99,Tryz.ntmps99
  go_wp2_with fail
  go_ret
  exact⟨ret_bool E.out.symm,rfl⟩
 by_cases h64:hi<s.size
 ·have E:Hid (made14 o s lo hi=false):=by show _=_;unfold made14;rw[dF (by omega)];rfl
  go_enter Tryz.func99,Tryz.ntmps99
  go_wp2_with fail
  go_ret
  exact⟨ret_bool E.out.symm,rfl⟩
 have EQ:Hid (made14 o s lo hi=dmadeB (bl o) (bl s)):=by show _=_;unfold made14;rw[dT (by omega)];rfl
 go_enter Tryz.func99,Tryz.ntmps99
 go_wp2_with fail
 go_loop [9] (fun i=>∃ k:Nat,k≤s.size∧i=.int .i64 k∧Hid (dAt (bl o) (bl s) k=true)) (fun i=>s.size-(intOf i).toNat)
 case atStart=>exact⟨0,z0,rfl,by simp[Hid,dAt]⟩
 case round=>
  obtain⟨k,hk,rfl,HA⟩:=hrel
  by_cases hlt:k<s.size
  ·obtain⟨c,hc⟩:∃ c:UInt8,s[k]=c:=⟨_,rfl⟩
   have STEP:=hid (dAt_step (bl o) s k hlt HA.out)
   have BAD:=hid (dmade_bad (bl o) s k hlt)
   have BAD0:Hid (k=0→lowB c=false→dmadeB (bl o) (bl s)=false):=by
    intro k0 h;subst k0;exact dAt_bad0 (bl o) s hlt (by rw[hc];exact h)
   rw[hc] at STEP BAD
   go_upto_region 7 with(fail)
   go_cut [10,11] (fun u v wx=>u=.int .u8 c.toNat∧v=.bool (lowB c)∧w=wx)
   case first=>
    go_wp2_with fail
    all_goals go_meet
    all_goals (refine⟨by first | rfl | (congr 1;omega),?_,rfl⟩;congr 1;rw[bI];simp[lowB,smlB,digB];omega)
   case rest=>
   obtain⟨rfl,rfl,rfl⟩:=hcut
   clear hc
   cases hf:lowB c with
   | true=>
    have HN:=hid (STEP.out (by rw[hf];rfl) (fun _=>hf))
    clear hf
    go_wp2_with fail
    go_round
    case rel=>exact⟨k+1,by omega,by go_num,HN⟩
    case measure=>simp[intOf];omega
   | false=>
    by_cases k0:k=0
    ·have E:=hid (BAD0.out k0 hf)
     have k1:((k:Int)==0)=true:=by simpa using k0
     clear hf
     go_wp2_with fail
     go_ret
     exact⟨ret_bool (by rw[EQ.out,E.out]),rfl⟩
    ·have k1:((k:Int)==0)=false:=by simpa using k0
     cases hn:inL (bl o) c with
     | true=>
      have HN:=hid (STEP.out (by rw[show(bl o).contains c=true from hn];simp) (fun h=>absurd h k0))
      clear hf
      go_wp2_with (go_at_call 142;refine(r14_in c o _ ho).mono ?_;rintro e w' ⟨rfl,rfl⟩)
      go_round
      case rel=>exact⟨k+1,by omega,by go_num,HN⟩
      case measure=>simp[intOf];omega
     | false=>
      have E:=hid (BAD.out hf hn)
      clear hf
      go_wp2_with (go_at_call 142;refine(r14_in c o _ ho).mono ?_;rintro e w' ⟨rfl,rfl⟩)
      go_ret
      exact⟨ret_bool (by rw[EQ.out,E.out]),rfl⟩
  ·have E:=hid (dAt_end (bl o) s k hlt hk (by omega) HA.out)
   go_wp2_with fail
   go_ret
   exact⟨ret_bool (by rw[EQ.out,E.out]),rfl⟩
theorem r14_Name (s:BA)(w:World)(hs:s.size≤9223372036854775807):
  Calls Tryz.prog 69 #[.string s] w fun e w'=>e=.returned (.bool (dnameB (bl s)))∧w=w':=by
 have E:Hid (dnameB (bl s)=made14 ⟨#[43,46,45]⟩ s 2 64):=by
  show _=_;unfold dnameB made14;rw[bl_length,bI];simp[bl,and_assoc]
 go_enter Tryz.func69,Tryz.ntmps69
 go_wp2_with fail
 refine(r14_made s ⟨#[43,46,45]⟩ 2 64 _ hs (by decide) (by omega) (by omega) (by omega)).mono ?_;rintro e w' ⟨rfl,rfl⟩
 go_wp2_with fail
 go_ret
 exact⟨ret_bool E.out.symm,rfl⟩
theorem dmade_pos (o l:LU)(h:l.length=0):dmadeB o l=false:=by
 rw[List.length_eq_zero_iff] at h;subst h;rfl
theorem r14_Word (s:BA)(w:World)(hs:s.size≤9223372036854775807):
  Calls Tryz.prog 209 #[.string s] w fun e w'=>e=.returned (.bool (dwordB (bl s)))∧w=w':=by
 have E:Hid (dwordB (bl s)=made14 ⟨#[45]⟩ s 1 32):=by
  show _=_;unfold dwordB made14
  by_cases h:s.size=0
  ·rw[dmade_pos _ _ (by rw[bl_length];exact h),dmade_pos _ _ (by rw[bl_length];exact h)];simp
  ·rw[bl_length,bI];simp[bl];omega
 go_enter Tryz.func209,Tryz.ntmps209
 go_wp2_with fail
 refine(r14_made s ⟨#[45]⟩ 1 32 _ hs (by decide) (by omega) (by omega) (by omega)).mono ?_;rintro e w' ⟨rfl,rfl⟩
 go_wp2_with fail
 go_ret
 exact⟨ret_bool E.out.symm,rfl⟩
theorem ddep_word (s:BA)(w:World)(hs:s.size≤9223372036854775807):
  Calls Tryz.prog 228 #[.string s] w fun e w'=>e=.returned (.bool (dwordB (bl s)))∧w=w':=by
 have hb:=bl_length s
 have HB:=hid hb;clear hb
 by_cases h3:s.size≤32
 ·go_enter Tryz.func228,Tryz.ntmps228
  go_wp2_with (go_at_call 58;refine(ddep_made s _ _ hs).mono ?_;rintro e w' ⟨rfl,rfl⟩)
  go_ret
  exact⟨ret_bool (by unfold dwordB;rw[HB.out,dT h3];simp[bl]),rfl⟩
 ·go_enter Tryz.func228,Tryz.ntmps228
  go_wp2_with fail
  go_ret
  exact⟨ret_bool (by unfold dwordB;rw[HB.out,dF h3];simp),rfl⟩
theorem rdep_Name (s:BA)(w:World)(hs:s.size≤9223372036854775807):
  Calls Tryz.prog 92 #[.string s] w fun e w'=>e=.returned (.bool (rnameB (bl s)))∧w=w':=by
 by_cases h0:s.size=0
 ·have he:s.toList=[]:=by rw[bl_toList,bl_nil s h0]
  have he2:s.toList.isEmpty=true:=by rw[he];rfl
  have E:Hid (rnameB (bl s)=false):=rname_size s (by omega)
  go_enter Tryz.func92,Tryz.ntmps92
  go_wp2_with fail
  go_ret
  exact⟨ret_bool E.out.symm,rfl⟩
 have hp:0<s.size:=by omega
 have he2:s.toList.isEmpty=false:=by rw[bl_toList,bl_isEmpty];exact dF h0
 have he:¬ s.toList=[]:=by intro h;rw[h] at he2;simp at he2
 by_cases h64:64<s.size
 ·have E:Hid (rnameB (bl s)=false):=rname_size s (by omega)
  go_enter Tryz.func92,Tryz.ntmps92
  go_wp2_with fail
  go_ret
  exact⟨ret_bool E.out.symm,rfl⟩
 have h64':decide (64<(s.size:Int))=false:=dF (by omega)
 obtain⟨c0,hc0⟩:∃ c0:UInt8,s[0]=c0:=⟨_,rfl⟩
 have HH:=hid (rHead_pos s hp)
 rw[hc0] at HH
 cases hl:letB c0 with
 | true=>
  have HD:Hid (rHead (bl s)=true):=by show _=_;rw[HH.out];simp[rPlain,hl]
  have hL:=fun W=>rdep_letter c0 W
  rw[hl] at hL
  clear hl
  go_enter Tryz.func92,Tryz.ntmps92
  go_wp2_with fail
  refine(hL _).mono ?_;rintro e w' ⟨rfl,rfl⟩
  go_wp2_with fail
  clear hL
  go_loop [3,32] (fun o i=>∃ k n:Nat,k≤s.size∧n≤k∧o=.int .i64 n∧i=.int .i64 k∧Hid (((bl s).take k).foldl rStep (some 0)=some n)) (fun _ i=>s.size-(intOf i).toNat)
  case atStart=>exact⟨0,0,z0,lr,rfl,rfl,by simp[Hid]⟩
  case round=>
   obtain⟨k,n,hk,hn,rfl,rfl,HA⟩:=hrel
   by_cases hlt:k<s.size
   ·obtain⟨c,hc⟩:∃ c:UInt8,s[k]=c:=⟨_,rfl⟩
    have NX:=hid (fun m=>rname_next s k n m hlt HA.out)
    have BD:=hid (rname_bad s k n hlt HA.out)
    rw[hc] at NX BD
    have hcc:∀ n:UInt8,c=n↔c.toNat=n.toNat:=fun n=>UInt8.toNat_inj.symm
    by_cases c40:c.toNat=40
    ·have e40:(c==40)=true:=by rw[beq_iff_eq,hcc];exact c40
     have HN:=hid (NX.out (n+1) (by simp[rStep,e40]))
     clear e40 hcc
     go_wp2_with fail
     go_round
     case rel=>exact⟨k+1,n+1,by omega,by omega,by go_num,by go_num,HN⟩
     case measure=>simp[intOf];omega
    have e40:(c==40)=false:=by rw[bF,ne_eq,hcc];exact c40
    by_cases c41:c.toNat=41
    ·have e41:(c==41)=true:=by rw[beq_iff_eq,hcc];exact c41
     by_cases n0:n=0
     ·have E:=hid (BD.out (by simp[rStep,e40,e41,n0]))
      subst n0
      clear e40 e41 hcc
      go_wp2_with fail
      go_ret
      exact⟨ret_bool E.out.symm,rfl⟩
     ·have HN:=hid (NX.out (n-1) (by simp[rStep,e40,e41,n0]))
      obtain⟨m,rfl⟩:∃ m,n=m+1:=⟨n-1,by omega⟩
      clear e40 e41 hcc
      go_wp2_with fail
      go_round
      case rel=>exact⟨k+1,m,by omega,by omega,by go_num,by go_num,HN⟩
      case measure=>simp[intOf];omega
    have e41:(c==41)=false:=by rw[bF,ne_eq,hcc];exact c41
    cases hl:letB c with
    | true=>
     have ho:rOther c=true:=by simp[rOther,hl]
     have HN:=hid (NX.out (n) (by simp[rStep,e40,e41,ho]))
     have hL:=fun W=>rdep_letter c W
     rw[hl] at hL
     clear hl ho e40 e41 hcc
     go_wp2_with fail
     refine(hL _).mono ?_;rintro e w' ⟨rfl,rfl⟩
     go_wp2_with fail
     go_round
     case rel=>exact⟨k+1,n,by omega,by omega,by go_num,by go_num,HN⟩
     case measure=>simp[intOf];omega
    | false=>
     cases hd:digB c with
     | true=>
      have ho:rOther c=true:=by simp[rOther,hd]
      have HN:=hid (NX.out (n) (by simp[rStep,e40,e41,ho]))
      have hL:=fun W=>rdep_letter c W
      rw[hl] at hL
      have hD:=fun W=>rdep_digit c W
      rw[hd] at hD
      clear hl hd ho e40 e41 hcc
      go_wp2_with fail
      refine(hL _).mono ?_;rintro e w' ⟨rfl,rfl⟩
      go_wp2_with fail
      refine(hD _).mono ?_;rintro e w' ⟨rfl,rfl⟩
      go_wp2_with fail
      go_round
      case rel=>exact⟨k+1,n,by omega,by omega,by go_num,by go_num,HN⟩
      case measure=>simp[intOf];omega
     | false=>
      have hco:=r_others c hl hd
      cases ho:rOther c with
      | true=>
       have hx:=ixB_pos ⟨#[46,95,43,45,47,58]⟩ c (by rw[hco,ho])
       have HN:=hid (NX.out (n) (by simp[rStep,e40,e41,ho]))
       have hL:=fun W=>rdep_letter c W
       rw[hl] at hL
       have hD:=fun W=>rdep_digit c W
       rw[hd] at hD
       clear hl hd ho hco e40 e41 hcc
       go_wp2_with fail
       refine(hL _).mono ?_;rintro e w' ⟨rfl,rfl⟩
       go_wp2_with fail
       refine(hD _).mono ?_;rintro e w' ⟨rfl,rfl⟩
       go_wp2_with fail
       refine(IndexByte_any _ c _).mono ?_;rintro e w' ⟨rfl,rfl⟩
       go_wp2_with fail
       go_round
       case rel=>exact⟨k+1,n,by omega,by omega,by go_num,by go_num,HN⟩
       case measure=>simp[intOf];omega
      | false=>
       have hx:=ixB_neg ⟨#[46,95,43,45,47,58]⟩ c (by rw[hco,ho])
       have E:=hid (BD.out (by simp[rStep,e40,e41,ho]))
       have hL:=fun W=>rdep_letter c W
       rw[hl] at hL
       have hD:=fun W=>rdep_digit c W
       rw[hd] at hD
       clear hl hd ho hco e40 e41 hcc
       go_wp2_with fail
       refine(hL _).mono ?_;rintro e w' ⟨rfl,rfl⟩
       go_wp2_with fail
       refine(hD _).mono ?_;rintro e w' ⟨rfl,rfl⟩
       go_wp2_with fail
       refine(IndexByte_any _ c _).mono ?_;rintro e w' ⟨rfl,rfl⟩
       go_wp2_with fail
       go_ret
       exact⟨ret_bool E.out.symm,rfl⟩
   ·have E:=hid (rname_end s k n hlt HA.out (by omega) (by omega) HD.out)
    go_wp2_with fail
    go_ret
    exact⟨ret_bool (by rw[E.out,bI];simp),rfl⟩
 | false=>
  cases hd:digB c0 with
  | true=>
   have HD:Hid (rHead (bl s)=true):=by show _=_;rw[HH.out];simp[rPlain,hd]
   have hL:=fun W=>rdep_letter c0 W
   rw[hl] at hL
   have hD:=fun W=>rdep_digit c0 W
   rw[hd] at hD
   clear hl hd
   go_enter Tryz.func92,Tryz.ntmps92
   go_wp2_with fail
   refine(hL _).mono ?_;rintro e w' ⟨rfl,rfl⟩
   go_wp2_with fail
   refine(hD _).mono ?_;rintro e w' ⟨rfl,rfl⟩
   go_wp2_with fail
   clear hL hD
   go_loop [3,32] (fun o i=>∃ k n:Nat,k≤s.size∧n≤k∧o=.int .i64 n∧i=.int .i64 k∧Hid (((bl s).take k).foldl rStep (some 0)=some n)) (fun _ i=>s.size-(intOf i).toNat)
   case atStart=>exact⟨0,0,z0,lr,rfl,rfl,by simp[Hid]⟩
   case round=>
    obtain⟨k,n,hk,hn,rfl,rfl,HA⟩:=hrel
    by_cases hlt:k<s.size
    ·obtain⟨c,hc⟩:∃ c:UInt8,s[k]=c:=⟨_,rfl⟩
     have NX:=hid (fun m=>rname_next s k n m hlt HA.out)
     have BD:=hid (rname_bad s k n hlt HA.out)
     rw[hc] at NX BD
     have hcc:∀ n:UInt8,c=n↔c.toNat=n.toNat:=fun n=>UInt8.toNat_inj.symm
     by_cases c40:c.toNat=40
     ·have e40:(c==40)=true:=by rw[beq_iff_eq,hcc];exact c40
      have HN:=hid (NX.out (n+1) (by simp[rStep,e40]))
      clear e40 hcc
      go_wp2_with fail
      go_round
      case rel=>exact⟨k+1,n+1,by omega,by omega,by go_num,by go_num,HN⟩
      case measure=>simp[intOf];omega
     have e40:(c==40)=false:=by rw[bF,ne_eq,hcc];exact c40
     by_cases c41:c.toNat=41
     ·have e41:(c==41)=true:=by rw[beq_iff_eq,hcc];exact c41
      by_cases n0:n=0
      ·have E:=hid (BD.out (by simp[rStep,e40,e41,n0]))
       subst n0
       clear e40 e41 hcc
       go_wp2_with fail
       go_ret
       exact⟨ret_bool E.out.symm,rfl⟩
      ·have HN:=hid (NX.out (n-1) (by simp[rStep,e40,e41,n0]))
       obtain⟨m,rfl⟩:∃ m,n=m+1:=⟨n-1,by omega⟩
       clear e40 e41 hcc
       go_wp2_with fail
       go_round
       case rel=>exact⟨k+1,m,by omega,by omega,by go_num,by go_num,HN⟩
       case measure=>simp[intOf];omega
     have e41:(c==41)=false:=by rw[bF,ne_eq,hcc];exact c41
     cases hl:letB c with
     | true=>
      have ho:rOther c=true:=by simp[rOther,hl]
      have HN:=hid (NX.out (n) (by simp[rStep,e40,e41,ho]))
      have hL:=fun W=>rdep_letter c W
      rw[hl] at hL
      clear hl ho e40 e41 hcc
      go_wp2_with fail
      refine(hL _).mono ?_;rintro e w' ⟨rfl,rfl⟩
      go_wp2_with fail
      go_round
      case rel=>exact⟨k+1,n,by omega,by omega,by go_num,by go_num,HN⟩
      case measure=>simp[intOf];omega
     | false=>
      cases hd:digB c with
      | true=>
       have ho:rOther c=true:=by simp[rOther,hd]
       have HN:=hid (NX.out (n) (by simp[rStep,e40,e41,ho]))
       have hL:=fun W=>rdep_letter c W
       rw[hl] at hL
       have hD:=fun W=>rdep_digit c W
       rw[hd] at hD
       clear hl hd ho e40 e41 hcc
       go_wp2_with fail
       refine(hL _).mono ?_;rintro e w' ⟨rfl,rfl⟩
       go_wp2_with fail
       refine(hD _).mono ?_;rintro e w' ⟨rfl,rfl⟩
       go_wp2_with fail
       go_round
       case rel=>exact⟨k+1,n,by omega,by omega,by go_num,by go_num,HN⟩
       case measure=>simp[intOf];omega
      | false=>
       have hco:=r_others c hl hd
       cases ho:rOther c with
       | true=>
        have hx:=ixB_pos ⟨#[46,95,43,45,47,58]⟩ c (by rw[hco,ho])
        have HN:=hid (NX.out (n) (by simp[rStep,e40,e41,ho]))
        have hL:=fun W=>rdep_letter c W
        rw[hl] at hL
        have hD:=fun W=>rdep_digit c W
        rw[hd] at hD
        clear hl hd ho hco e40 e41 hcc
        go_wp2_with fail
        refine(hL _).mono ?_;rintro e w' ⟨rfl,rfl⟩
        go_wp2_with fail
        refine(hD _).mono ?_;rintro e w' ⟨rfl,rfl⟩
        go_wp2_with fail
        refine(IndexByte_any _ c _).mono ?_;rintro e w' ⟨rfl,rfl⟩
        go_wp2_with fail
        go_round
        case rel=>exact⟨k+1,n,by omega,by omega,by go_num,by go_num,HN⟩
        case measure=>simp[intOf];omega
       | false=>
        have hx:=ixB_neg ⟨#[46,95,43,45,47,58]⟩ c (by rw[hco,ho])
        have E:=hid (BD.out (by simp[rStep,e40,e41,ho]))
        have hL:=fun W=>rdep_letter c W
        rw[hl] at hL
        have hD:=fun W=>rdep_digit c W
        rw[hd] at hD
        clear hl hd ho hco e40 e41 hcc
        go_wp2_with fail
        refine(hL _).mono ?_;rintro e w' ⟨rfl,rfl⟩
        go_wp2_with fail
        refine(hD _).mono ?_;rintro e w' ⟨rfl,rfl⟩
        go_wp2_with fail
        refine(IndexByte_any _ c _).mono ?_;rintro e w' ⟨rfl,rfl⟩
        go_wp2_with fail
        go_ret
        exact⟨ret_bool E.out.symm,rfl⟩
    ·have E:=hid (rname_end s k n hlt HA.out (by omega) (by omega) HD.out)
     go_wp2_with fail
     go_ret
     exact⟨ret_bool (by rw[E.out,bI];simp),rfl⟩
  | false=>
   by_cases h47:c0.toNat=47
   ·have c47:c0=47:=UInt8.toNat_inj.1 h47
    have HD:Hid (rHead (bl s)=true):=by show _=_;rw[HH.out];simp[rPlain,c47]
    clear c47
    have hL:=fun W=>rdep_letter c0 W
    rw[hl] at hL
    have hD:=fun W=>rdep_digit c0 W
    rw[hd] at hD
    have b47:((c0.toNat:Int) != 47)=false:=by simp[h47]
    clear hl hd h47
    go_enter Tryz.func92,Tryz.ntmps92
    go_wp2_with fail
    refine(hL _).mono ?_;rintro e w' ⟨rfl,rfl⟩
    go_wp2_with fail
    refine(hD _).mono ?_;rintro e w' ⟨rfl,rfl⟩
    go_wp2_with fail
    clear hL hD
    go_loop [3,32] (fun o i=>∃ k n:Nat,k≤s.size∧n≤k∧o=.int .i64 n∧i=.int .i64 k∧Hid (((bl s).take k).foldl rStep (some 0)=some n)) (fun _ i=>s.size-(intOf i).toNat)
    case atStart=>exact⟨0,0,z0,lr,rfl,rfl,by simp[Hid]⟩
    case round=>
     obtain⟨k,n,hk,hn,rfl,rfl,HA⟩:=hrel
     by_cases hlt:k<s.size
     ·obtain⟨c,hc⟩:∃ c:UInt8,s[k]=c:=⟨_,rfl⟩
      have NX:=hid (fun m=>rname_next s k n m hlt HA.out)
      have BD:=hid (rname_bad s k n hlt HA.out)
      rw[hc] at NX BD
      have hcc:∀ n:UInt8,c=n↔c.toNat=n.toNat:=fun n=>UInt8.toNat_inj.symm
      by_cases c40:c.toNat=40
      ·have e40:(c==40)=true:=by rw[beq_iff_eq,hcc];exact c40
       have HN:=hid (NX.out (n+1) (by simp[rStep,e40]))
       clear e40 hcc
       go_wp2_with fail
       go_round
       case rel=>exact⟨k+1,n+1,by omega,by omega,by go_num,by go_num,HN⟩
       case measure=>simp[intOf];omega
      have e40:(c==40)=false:=by rw[bF,ne_eq,hcc];exact c40
      by_cases c41:c.toNat=41
      ·have e41:(c==41)=true:=by rw[beq_iff_eq,hcc];exact c41
       by_cases n0:n=0
       ·have E:=hid (BD.out (by simp[rStep,e40,e41,n0]))
        subst n0
        clear e40 e41 hcc
        go_wp2_with fail
        go_ret
        exact⟨ret_bool E.out.symm,rfl⟩
       ·have HN:=hid (NX.out (n-1) (by simp[rStep,e40,e41,n0]))
        obtain⟨m,rfl⟩:∃ m,n=m+1:=⟨n-1,by omega⟩
        clear e40 e41 hcc
        go_wp2_with fail
        go_round
        case rel=>exact⟨k+1,m,by omega,by omega,by go_num,by go_num,HN⟩
        case measure=>simp[intOf];omega
      have e41:(c==41)=false:=by rw[bF,ne_eq,hcc];exact c41
      cases hl:letB c with
      | true=>
       have ho:rOther c=true:=by simp[rOther,hl]
       have HN:=hid (NX.out (n) (by simp[rStep,e40,e41,ho]))
       have hL:=fun W=>rdep_letter c W
       rw[hl] at hL
       clear hl ho e40 e41 hcc
       go_wp2_with fail
       refine(hL _).mono ?_;rintro e w' ⟨rfl,rfl⟩
       go_wp2_with fail
       go_round
       case rel=>exact⟨k+1,n,by omega,by omega,by go_num,by go_num,HN⟩
       case measure=>simp[intOf];omega
      | false=>
       cases hd:digB c with
       | true=>
        have ho:rOther c=true:=by simp[rOther,hd]
        have HN:=hid (NX.out (n) (by simp[rStep,e40,e41,ho]))
        have hL:=fun W=>rdep_letter c W
        rw[hl] at hL
        have hD:=fun W=>rdep_digit c W
        rw[hd] at hD
        clear hl hd ho e40 e41 hcc
        go_wp2_with fail
        refine(hL _).mono ?_;rintro e w' ⟨rfl,rfl⟩
        go_wp2_with fail
        refine(hD _).mono ?_;rintro e w' ⟨rfl,rfl⟩
        go_wp2_with fail
        go_round
        case rel=>exact⟨k+1,n,by omega,by omega,by go_num,by go_num,HN⟩
        case measure=>simp[intOf];omega
       | false=>
        have hco:=r_others c hl hd
        cases ho:rOther c with
        | true=>
         have hx:=ixB_pos ⟨#[46,95,43,45,47,58]⟩ c (by rw[hco,ho])
         have HN:=hid (NX.out (n) (by simp[rStep,e40,e41,ho]))
         have hL:=fun W=>rdep_letter c W
         rw[hl] at hL
         have hD:=fun W=>rdep_digit c W
         rw[hd] at hD
         clear hl hd ho hco e40 e41 hcc
         go_wp2_with fail
         refine(hL _).mono ?_;rintro e w' ⟨rfl,rfl⟩
         go_wp2_with fail
         refine(hD _).mono ?_;rintro e w' ⟨rfl,rfl⟩
         go_wp2_with fail
         refine(IndexByte_any _ c _).mono ?_;rintro e w' ⟨rfl,rfl⟩
         go_wp2_with fail
         go_round
         case rel=>exact⟨k+1,n,by omega,by omega,by go_num,by go_num,HN⟩
         case measure=>simp[intOf];omega
        | false=>
         have hx:=ixB_neg ⟨#[46,95,43,45,47,58]⟩ c (by rw[hco,ho])
         have E:=hid (BD.out (by simp[rStep,e40,e41,ho]))
         have hL:=fun W=>rdep_letter c W
         rw[hl] at hL
         have hD:=fun W=>rdep_digit c W
         rw[hd] at hD
         clear hl hd ho hco e40 e41 hcc
         go_wp2_with fail
         refine(hL _).mono ?_;rintro e w' ⟨rfl,rfl⟩
         go_wp2_with fail
         refine(hD _).mono ?_;rintro e w' ⟨rfl,rfl⟩
         go_wp2_with fail
         refine(IndexByte_any _ c _).mono ?_;rintro e w' ⟨rfl,rfl⟩
         go_wp2_with fail
         go_ret
         exact⟨ret_bool E.out.symm,rfl⟩
     ·have E:=hid (rname_end s k n hlt HA.out (by omega) (by omega) HD.out)
      go_wp2_with fail
      go_ret
      exact⟨ret_bool (by rw[E.out,bI];simp),rfl⟩
   ·have E:Hid (rnameB (bl s)=false):=rname_head s (by rw[HH.out];simp only[rPlain,hl,hd];simp;intro e;exact h47 (by rw[e];rfl))
    have hL:=fun W=>rdep_letter c0 W
    rw[hl] at hL
    have hD:=fun W=>rdep_digit c0 W
    rw[hd] at hD
    clear hl hd
    have b47:=bneI (b:=47) (by omega:(c0.toNat:Int)≠47)
    go_enter Tryz.func92,Tryz.ntmps92
    go_wp2_with fail
    refine(hL _).mono ?_;rintro e w' ⟨rfl,rfl⟩
    go_wp2_with fail
    refine(hD _).mono ?_;rintro e w' ⟨rfl,rfl⟩
    go_wp2_with fail
    go_ret
    exact⟨ret_bool E.out.symm,rfl⟩
end
section
open Go.ChangeShapes Go.WideShapes Go.Deep Go.RowKit
section
variable {H : Type} {enc : TypeId × Value → H} {P : Program} {w : World} {base : Nat} {spare : Nat → Bool} {held : Bool}
theorem open_slice_fields {t e:TypeId}{fs:Array Field}{fuel:Nat}{cs:List Value}{x:DataW H×List MemPlace}(ht:P.underlying t=some (.slice e))(he:P.underlying e=some (.struct fs))
  (hone:oneCellFields P fs=true)(hC:P.cellsOf e=fs.size)(h:DataW.trod enc P w base spare held fuel t cs=some x):
  (cs=[.slice none 0 0]∧x=(.nil,[])) ∨
  ∃ (a:Addr) (len cap m:Nat) (D:Nat→DataW H) (Pl:Nat→List MemPlace),cs=[.slice (some a) len cap]∧base≤a.block∧len≤cap∧cap≤maxLen∧m=(if spare a.block then cap else len) ∧
   x=(.slice ((List.range len).map D) ((List.range (m-len)).map fun j=>D (len+j)),MemPlace.row a (m*fs.size)++(List.range m).flatMap Pl) ∧
   ∀ i,i<m→∃ (ys:List (DataW H×List MemPlace)) (n:Nat),D i=.agg (ys.map (·.1))∧Pl i=ys.flatMap (·.2)∧ys.length=fs.size ∧
    ∀ (j:Nat)(f:Field),fs[j]?=some f→∃ (v:Value)(y:DataW H×List MemPlace),w.cell? (a.add (i*fs.size+j))=some v∧ys[j]?=some y∧DataW.trod enc P w base spare held n f.type [v]=some y:=by
 rcases open_slice ht h with h0 | ⟨a,len,cap,m,n,D,Pl,hcs,hb,hl,hm,hmm,hx,hi⟩
 ·exact .inl h0
 ·refine .inr ⟨a,len,cap,m,D,Pl,hcs,hb,hl,hm,hmm,by rw[hC] at hx;exact hx,fun i him=>?_⟩
  obtain⟨cs',hc,ht'⟩:=hi i him
  rw[hC] at hc
  obtain⟨ys,n',hn',hy,hlen,hyl,hf⟩:=DataW.trod_struct he ht'
  obtain⟨_,hcl,hat⟩:=World.cells?_some hc
  simp only[Prod.mk.injEq] at hy
  refine⟨ys,n',hy.1,hy.2,hyl,fun j f hj=>?_⟩
  obtain⟨ho,hk⟩:=hone_of hone j f hj
  have hjl:j<fs.size:=(Array.getElem?_eq_some_iff.1 hj).1
  have hcell:=hat j hjl
  have hv:cs'[j]?=some (cs'[j]'(by omega)):=gG (by omega)
  have h1:=hf j f hj
  rw[ho,hk] at h1
  have hone':(cs'.drop j).take 1=[cs'[j]'(by omega)]:=by
   rw[List.drop_eq_getElem_cons (by omega)]
   rfl
  rw[hone'] at h1
  have hys:ys[j]?=some (ys[j]'(by omega)):=gG (by omega)
  refine⟨_,_,?_,hys,h1.trans hys⟩
  rw[←Go.Deep.add_add,hcell,hv]
end
theorem list_of {α:Type}{Q:Nat→α→Prop}:∀ n:Nat,(∀ i,i<n→∃ x,Q i x)→∃ l:List α,l.length=n∧∀ (i:Nat)(x:α),l[i]?=some x→Q i x
 | 0,_=>⟨[],rfl,fun i x h=>by simp at h⟩
 | n+1,h=>by
  obtain⟨l,hl,hq⟩:=list_of n (fun i hi=>h i (by omega))
  obtain⟨x,hx⟩:=h n (by omega)
  refine⟨l++[x],by simp[hl],fun i y hy=>?_⟩
  by_cases hi:i<l.length
  ·rw[List.getElem?_append_left hi] at hy;exact hq i y hy
  ·rw[List.getElem?_append_right (by omega)] at hy
   have:i=n:=by have:=(gS hy).1;simp at this;omega
   subst this;rw[hl,Nat.sub_self] at hy;simp at hy;subst hy;exact hx
theorem flat_split {α:Type}{f:α→List Value}{sz:Nat}(hf:∀ x,(f x).length=sz)(hsz:0<sz)(l:List α)(j:Nat)(u:Value)(h:(l.flatMap f)[j]?=some u):∃ (i k:Nat)(x:α),l[i]?=some x∧k<sz∧j=i*sz+k∧(f x)[k]?=some u:=by
 have hj:j<l.length*sz:=by rw[←flat_length hf];exact(gS h).1
 have hi:j / sz<l.length:=Nat.div_lt_of_lt_mul (by rw[Nat.mul_comm];exact hj)
 have hk:j % sz<sz:=Nat.mod_lt _ hsz
 have e:j=j / sz*sz+j % sz:=by rw[Nat.mul_comm];exact(Nat.div_add_mod j sz).symm
 refine⟨j / sz,j % sz,l[j / sz],gG hi,hk,e,?_⟩
 rw[←flat_at hf l (j / sz) (j % sz) _ (gG hi) hk,←e,h]
theorem addr_flat {w:World}{a:Addr}{n:Nat}{v:Value}(h:w.cell? (a.add n)=some v):a.add n=⟨a.block,a.off+n,none⟩:=by
 unfold Addr.add at *
 split at h
 ·rename_i h0;subst h0
  simp only[if_pos]
  cases a with | mk b o s=>
   unfold World.cell? at h
   split at h
   ·split at h
    ·cases h
    ·rename_i hs;simp at hs;simp[hs]
   ·cases h
 ·rename_i h0;rw[if_neg h0]
section
variable {H : Type} {enc : TypeId × Value → H} {w : World} {spare : Nat → Bool}
theorem open_list {T E:TypeId}{fs:Array Field}(hT:Tryz.prog.underlying T=some (.slice E))(hE:Tryz.prog.underlying E=some (.struct fs))(hone:oneCellFields Tryz.prog fs=true)(hC:Tryz.prog.cellsOf E=fs.size)(hpos:0<fs.size)
  {α:Type}(f:α→List Value)(Pr:α→Prop)(hf:∀ x,(f x).length=fs.size)
  (hel:∀ (n:Nat)(vs:Nat→Value),(∀ (j:Nat)(fd:Field),fs[j]?=some fd→∃ y,DataW.trod enc Tryz.prog w 0 spare true n fd.type [vs j]=some y)→∃ x:α,Pr x∧∀ j,j<fs.size→(f x)[j]?=some (vs j))
  {fuel:Nat}{v:Value}{d:DataW H×List MemPlace}(h:DataW.trod enc Tryz.prog w 0 spare true fuel T [v]=some d):
  ∃ (A:Option Addr) (c:Nat) (l:List α),v=.slice A l.length c∧Rd w fs.size A l.length (l.flatMap f)∧(∀ x∈l,Pr x)∧l.length≤9223372036854775807∧l.length≤c:=by
 rcases open_slice_fields hT hE hone hC h with⟨hcs,_⟩ | ⟨a,len,cap,m,D,Pl,hcs,_,hl,hm,hmm,_,hi⟩
 ·injection hcs with hcs _
  exact⟨none,0,[],hcs,Rd.nil _ _ _,fun x hx=>by simp at hx,z0,z0⟩
 ·injection hcs with hcs _
  have hlen:len≤m:=by rw[hmm];split<;>omega
  have key:∀ i,i<len→∃ x:α,Pr x∧∀ j u,(f x)[j]?=some u→w.cell? ⟨a.block,a.off+(i*fs.size+j),none⟩=some u:=by
   intro i hi'
   obtain⟨ys,n,_,_,hyl,hj⟩:=hi i (by omega)
   have hv:∀ j,∃ v,(∀ fd,fs[j]?=some fd→w.cell? (a.add (i*fs.size+j))=some v∧∃ y,DataW.trod enc Tryz.prog w 0 spare true n fd.type [v]=some y):=by
    intro j
    cases hfd:fs[j]? with
    | none=>exact⟨default,fun fd h=>by cases h⟩
    | some fd=>
     obtain⟨v,y,h1,_,h3⟩:=hj j fd hfd
     exact⟨v,fun fd' h=>by injection h with h;subst h;exact⟨h1,y,h3⟩⟩
   have hvs:∃ vs:Nat→Value,∀ j fd,fs[j]?=some fd→w.cell? (a.add (i*fs.size+j))=some (vs j)∧∃ y,DataW.trod enc Tryz.prog w 0 spare true n fd.type [vs j]=some y:=
    ⟨fun j=>Classical.choose (hv j),fun j fd h=>Classical.choose_spec (hv j) fd h⟩
   obtain⟨vs,hvs⟩:=hvs
   obtain⟨x,hx,hc⟩:=hel n vs (fun j fd h=>(hvs j fd h).2)
   refine⟨x,hx,fun j u hu=>?_⟩
   have hjs:j<fs.size:=by rw[←hf x];exact(gS hu).1
   have h1:=hc j hjs
   rw[hu] at h1
   have h1:=Option.some.inj h1
   subst h1
   have h2:=(hvs j _ (Array.getElem?_eq_getElem hjs)).1
   rw[addr_flat h2] at h2
   exact h2
  obtain⟨l,hll,hlq⟩:=list_of len key
  refine⟨some a,cap,l,by rw[hll];exact hcs,⟨flat_length hf l,fun hn=>?_⟩,fun x hx=>?_,by rw[hll];unfold maxLen at hm;omega,by rw[hll];exact hl⟩
  ·obtain⟨x0,hx0⟩:∃ x,l[0]?=some x:=⟨_,gG hn⟩
   obtain⟨u0,hu0⟩:∃ u,(f x0)[0]?=some u:=⟨_,gG (by rw[hf];exact hpos)⟩
   refine⟨a.block,a.off,?_,fun j u hu=>?_⟩
   ·obtain⟨ys,n,_,_,_,hj⟩:=hi 0 (by omega)
    obtain⟨v0,y0,h1,_,_⟩:=hj 0 _ (Array.getElem?_eq_getElem hpos)
    have h2:=addr_flat h1
    simp only[Nat.zero_mul,Nat.zero_add,Addr.add,if_pos,Nat.add_zero] at h2
    rw[←h2]
   ·obtain⟨i,k,x,hx,hk,rfl,hu'⟩:=flat_split hf hpos l j u hu
    exact(hlq i x hx).2 k u hu'
  ·obtain⟨i,hi',rfl⟩:=List.getElem_of_mem hx
   exact(hlq i _ (gG hi')).1
theorem open_strs {T E:TypeId}(hT:Tryz.prog.underlying T=some (.slice E))(hE:Tryz.prog.underlying E=some .string)(hC:Tryz.prog.cellsOf E=1)
  {fuel:Nat}{v:Value}{d:DataW H×List MemPlace}(h:DataW.trod enc Tryz.prog w 0 spare true fuel T [v]=some d):
  ∃ (A:Option Addr) (c:Nat) (l:List BA),v=.slice A l.length c∧Rd w 1 A l.length (strCells l)∧(∀ x∈l,x.size≤9223372036854775807)∧l.length≤9223372036854775807∧l.length≤c:=by
 rcases open_slice hT h with⟨hcs,_⟩ | ⟨a,len,cap,m,n,D,Pl,hcs,_,hl,hm,hmm,_,hi⟩
 ·injection hcs with hcs _
  exact⟨none,0,[],hcs,Rd.nil _ _ _,fun x hx=>by simp at hx,z0,z0⟩
 ·injection hcs with hcs _
  have hlen:len≤m:=by rw[hmm];split<;>omega
  have key:∀ i,i<len→∃ x:BA,x.size≤9223372036854775807∧w.cell? ⟨a.block,a.off+i,none⟩=some (.string x)∧a.add i=⟨a.block,a.off+i,none⟩:=by
   intro i hi'
   obtain⟨cs',hc,ht'⟩:=hi i (by omega)
   rw[hC] at hc
   obtain⟨_,hcl,hat⟩:=World.cells?_some hc
   obtain⟨s,hs,_,hsz⟩:=DataW.trod_string hE ht'
   have h0:=hat 0 (by omega)
   rw[hs,Nat.mul_one] at h0
   have h1:w.cell? (a.add i)=some (.string s):=by
    have e:(a.add i).add 0=a.add i:=by simp[Addr.add]
    rw[e] at h0;simpa using h0
   have h2:=addr_flat h1
   refine⟨s,by unfold maxLen at hsz;omega,by rw[←h2];exact h1,h2⟩
  obtain⟨l,hll,hlq⟩:=list_of len key
  refine⟨some a,cap,l,by rw[hll];exact hcs,⟨by simp[strCells],fun hn=>?_⟩,fun x hx=>?_,by rw[hll];unfold maxLen at hm;omega,by rw[hll];exact hl⟩
  ·refine⟨a.block,a.off,?_,fun j u hu=>?_⟩
   ·have h2:=(hlq 0 _ (gG hn)).2.2
    simp only[Addr.add,if_pos,Nat.add_zero] at h2
    rw[←h2]
   ·simp only[strCells,List.getElem?_map,Option.map_eq_some_iff] at hu
    obtain⟨x,hx,rfl⟩:=hu
    exact(hlq j x hx).2.1
  ·obtain⟨i,hi',rfl⟩:=List.getElem_of_mem hx
   exact(hlq i _ (gG hi')).1
end
end
section
open Go.ChangeShapes Go.WideShapes Go.Deep Go.RowKit
section
variable {H : Type} {enc : TypeId × Value → H} {w : World} {spare : Nat → Bool}
def AtomOk (x:AtomM):Prop:=x.nm.size≤9223372036854775807∧x.ver.size≤9223372036854775807∧(Lit.int .i64 x.op).wf=true
def FileOk (x:FileM):Prop:=x.path.size≤9223372036854775807∧x.owner.size≤9223372036854775807∧x.group.size≤9223372036854775807∧x.link.size≤9223372036854775807∧x.sum.size≤9223372036854775807∧(Lit.int .i64 x.kind).wf=true∧(Lit.int .i64 x.mode).wf=true
def ScriptOk (x:ScriptM):Prop:=x.body.size≤9223372036854775807∧(Lit.int .i64 x.phase).wf=true
theorem read_str {n:Nat}{v:Value}{y:DataW H×List MemPlace}(h:DataW.trod enc Tryz.prog w 0 spare true n 9 [v]=some y):∃ s:BA,v=.string s∧s.size≤9223372036854775807:=by
 obtain⟨s,hs,_,hz⟩:=DataW.trod_string Tryz.underlying9 h
 injection hs with hs _
 exact⟨s,hs,by unfold maxLen at hz;omega⟩
theorem read_int {n:Nat}{v:Value}{y:DataW H×List MemPlace}(h:DataW.trod enc Tryz.prog w 0 spare true n 3 [v]=some y):∃ z:Int,v=.int .i64 z∧(Lit.int .i64 z).wf=true:=by
 obtain⟨z,hz,_,hw⟩:=DataW.trod_int Tryz.underlying3 h
 injection hz with hz _
 exact⟨z,hz,hw⟩
theorem read_bool {n:Nat}{v:Value}{y:DataW H×List MemPlace}(h:DataW.trod enc Tryz.prog w 0 spare true n 4 [v]=some y):∃ z:Bool,v=.bool z:=by
 obtain⟨z,hz,_⟩:=DataW.trod_bool Tryz.underlying4 h
 injection hz with hz _
 exact⟨z,hz⟩
theorem open_atoms {fuel:Nat}{v:Value}{d:DataW H×List MemPlace}(h:DataW.trod enc Tryz.prog w 0 spare true fuel 23 [v]=some d):
  ∃ (A:Option Addr) (c:Nat) (l:List AtomM),v=.slice A l.length c∧Rd w 3 A l.length (l.flatMap AtomM.cells)∧(∀ x∈l,AtomOk x)∧l.length≤9223372036854775807∧l.length≤c:=by
 refine open_list Tryz.underlying23 Tryz.underlying48 (by kernel_rfl) (by kernel_rfl) (by decide) AtomM.cells AtomOk (fun _=>rfl) (fun n vs hv=>?_) h
 obtain⟨y0,h0⟩:=hv 0 _ rfl
 obtain⟨y1,h1⟩:=hv 1 _ rfl
 obtain⟨y2,h2⟩:=hv 2 _ rfl
 obtain⟨s0,e0,z0⟩:=read_str h0
 obtain⟨s1,e1,z1⟩:=read_int h1
 obtain⟨s2,e2,z2⟩:=read_str h2
 refine⟨⟨s0,s1,s2⟩,⟨z0,z2,z1⟩,fun j hj=>?_⟩
 have hj':j<3:=hj
 rcases(by omega:j=0∨j=1∨j=2) with rfl | rfl | rfl
 ·rw[e0];rfl
 ·rw[e1];rfl
 ·rw[e2];rfl
theorem open_files {fuel:Nat}{v:Value}{d:DataW H×List MemPlace}(h:DataW.trod enc Tryz.prog w 0 spare true fuel 24 [v]=some d):
  ∃ (A:Option Addr) (c:Nat) (l:List FileM),v=.slice A l.length c∧Rd w 8 A l.length (l.flatMap FileM.cells)∧(∀ x∈l,FileOk x)∧l.length≤9223372036854775807∧l.length≤c:=by
 refine open_list Tryz.underlying24 Tryz.underlying46 (by kernel_rfl) (by kernel_rfl) (by decide) FileM.cells FileOk (fun _=>rfl) (fun n vs hv=>?_) h
 obtain⟨y0,h0⟩:=hv 0 _ rfl
 obtain⟨y1,h1⟩:=hv 1 _ rfl
 obtain⟨y2,h2⟩:=hv 2 _ rfl
 obtain⟨y3,h3⟩:=hv 3 _ rfl
 obtain⟨y4,h4⟩:=hv 4 _ rfl
 obtain⟨y5,h5⟩:=hv 5 _ rfl
 obtain⟨y6,h6⟩:=hv 6 _ rfl
 obtain⟨y7,h7⟩:=hv 7 _ rfl
 obtain⟨s0,e0,z0⟩:=read_str h0
 obtain⟨s1,e1,z1⟩:=read_int h1
 obtain⟨s2,e2,z2⟩:=read_int h2
 obtain⟨s3,e3,z3⟩:=read_str h3
 obtain⟨s4,e4,z4⟩:=read_str h4
 obtain⟨s5,e5,z5⟩:=read_str h5
 obtain⟨s6,e6,z6⟩:=read_str h6
 obtain⟨s7,e7⟩:=read_bool h7
 refine⟨⟨s0,s1,s2,s3,s4,s5,s6,s7⟩,⟨z0,z3,z4,z5,z6,z1,z2⟩,fun j hj=>?_⟩
 have hj':j<8:=hj
 rcases(by omega:j=0∨j=1∨j=2∨j=3∨j=4∨j=5∨j=6∨j=7) with rfl | rfl | rfl | rfl | rfl | rfl | rfl | rfl
 ·rw[e0];rfl
 ·rw[e1];rfl
 ·rw[e2];rfl
 ·rw[e3];rfl
 ·rw[e4];rfl
 ·rw[e5];rfl
 ·rw[e6];rfl
 ·rw[e7];rfl
theorem open_scripts {fuel:Nat}{v:Value}{d:DataW H×List MemPlace}(h:DataW.trod enc Tryz.prog w 0 spare true fuel 25 [v]=some d):
  ∃ (A:Option Addr) (c:Nat) (l:List ScriptM),v=.slice A l.length c∧Rd w 2 A l.length (l.flatMap ScriptM.cells)∧(∀ x∈l,ScriptOk x)∧l.length≤9223372036854775807∧l.length≤c:=by
 refine open_list Tryz.underlying25 Tryz.underlying50 (by kernel_rfl) (by kernel_rfl) (by decide) ScriptM.cells ScriptOk (fun _=>rfl) (fun n vs hv=>?_) h
 obtain⟨y0,h0⟩:=hv 0 _ rfl
 obtain⟨y1,h1⟩:=hv 1 _ rfl
 obtain⟨s0,e0,z0⟩:=read_int h0
 obtain⟨s1,e1,z1⟩:=read_str h1
 refine⟨⟨s0,s1⟩,⟨z1,z0⟩,fun j hj=>?_⟩
 have hj':j<2:=hj
 rcases(by omega:j=0∨j=1) with rfl | rfl
 ·rw[e0];rfl
 ·rw[e1];rfl
theorem open_pk (n:Nat)(vs:Nat→Value)
  (hv:∀ (j:Nat)(t:TypeId),[(9:TypeId),9,9,9,22,22,23,24,25][j]?=some t→∃ y,DataW.trod enc Tryz.prog w 0 spare true n t [vs j]=some y):
  ∃ p:PkL,(p.ok w∧p.fits∧p.files.length≤p.fc∧p.needs.length≤p.nc∧p.bars.length≤p.bc∧p.gives.length≤p.gc∧p.scripts.length≤p.sc)∧∀ j,j<9→p.cells[j]?=some (vs j):=by
 obtain⟨y0,h0⟩:=hv 0 _ rfl
 obtain⟨y1,h1⟩:=hv 1 _ rfl
 obtain⟨y2,h2⟩:=hv 2 _ rfl
 obtain⟨y3,h3⟩:=hv 3 _ rfl
 obtain⟨y4,h4⟩:=hv 4 _ rfl
 obtain⟨y5,h5⟩:=hv 5 _ rfl
 obtain⟨y6,h6⟩:=hv 6 _ rfl
 obtain⟨y7,h7⟩:=hv 7 _ rfl
 obtain⟨y8,h8⟩:=hv 8 _ rfl
 obtain⟨s0,e0,z0⟩:=read_str h0
 obtain⟨s1,e1,z1⟩:=read_str h1
 obtain⟨s2,e2,z2⟩:=read_str h2
 obtain⟨s3,e3,z3⟩:=read_str h3
 obtain⟨a4,c4,l4,e4,r4,x4,n4,k4⟩:=open_strs Tryz.underlying22 Tryz.underlying9 (by kernel_rfl) h4
 obtain⟨a5,c5,l5,e5,r5,x5,n5,k5⟩:=open_strs Tryz.underlying22 Tryz.underlying9 (by kernel_rfl) h5
 obtain⟨a6,c6,l6,e6,r6,x6,n6,k6⟩:=open_atoms h6
 obtain⟨a7,c7,l7,e7,r7,x7,n7,k7⟩:=open_files h7
 obtain⟨a8,c8,l8,e8,r8,x8,n8,k8⟩:=open_scripts h8
 refine⟨⟨s0,s1,s2,s3,a4,c4,l4,a5,c5,l5,a6,c6,l6,a7,c7,l7,a8,c8,l8⟩,⟨⟨r4,r5,r6,r7,r8⟩,⟨z0,z1,z2,z3,n4,n5,n6,n7,n8,x4,x5,x6,x7,x8⟩,k7,k4,k5,k6,k8⟩,fun j hj=>?_⟩
 rcases(by omega:j=0∨j=1∨j=2∨j=3∨j=4∨j=5∨j=6∨j=7∨j=8) with rfl | rfl | rfl | rfl | rfl | rfl | rfl | rfl | rfl
 ·rw[e0];rfl
 ·rw[e1];rfl
 ·rw[e2];rfl
 ·rw[e3];rfl
 ·rw[e4];rfl
 ·rw[e5];rfl
 ·rw[e6];rfl
 ·rw[e7];rfl
 ·rw[e8];rfl
end
end
section
open Go.ChangeShapes Go.WideShapes Go.ChangeAt Go.RowKit
theorem cells_of_strs {H:Type}{enc:TypeId×Value→H}{P:Program}{w:World}{base:Nat}{sp:Nat→Bool}{held:Bool}{fuel:Nat}{t e:TypeId}{n:Nat}{cs:List Value}{zs:List (LU)}{p:List MemPlace}
  (ht:P.underlying t=some (.array n e))(he:P.underlying e=some .string)(hce:P.cellsOf e=1)(hct:P.cellsOf t=n)
  (h:DataW.trod enc P w base sp held fuel t cs=some (.agg (zs.map fun z=>.lit (.string z)),p)):cs=zs.map fun z=>Value.string ⟨z.toArray⟩:=by
 cases fuel with
 | zero=>simp[DataW.trod] at h
 | succ fuel=>
  simp only[DataW.trod,ht,hce,hct,Nat.mul_one] at h
  split at h
  ·rename_i hl
   obtain⟨xs,hm,hx⟩:=Option.map_eq_some_iff.1 h
   have hxs:xs.map (·.1)=zs.map fun z=>(DataW.lit (.string z):DataW H):=by
    have:=congrArg Prod.fst hx
    simpa using this
   have hxl:xs.length=n:=by simpa using Lib.mapM_length hm
   have hzl:zs.length=n:=by
    have:=congrArg List.length hxs
    simp at this
    omega
   apply List.ext_getElem?
   intro i
   by_cases hi:i<n
   ·obtain⟨b,hb,hf⟩:=Lib.mapM_at hm i i (by simp[hi])
    obtain⟨z,hc,rfl,_⟩:=DataW.trod_string he hf
    have h1:cs[i]?=some (.string z):=by
     have:=congrArg (·[0]?) hc
     simpa [List.getElem?_take,List.getElem?_drop] using this
    have h2:(xs.map (·.1))[i]?=some (DataW.lit (.string z.data.toList):DataW H):=by simp[hb]
    rw[hxs] at h2
    simp only[List.getElem?_map,Option.map_eq_some_iff,DataW.lit.injEq,Lit.string.injEq] at h2
    obtain⟨z',hz',rfl⟩:=h2
    simp[h1,hz']
   ·rw[List.getElem?_eq_none (by omega),List.getElem?_eq_none (by simp;omega)]
  ·cases h
theorem laid_cut {P:Program}{w:World}{n:String}{d:DataW Unit}{r:List (String×DataW Unit)}{ps:List MemPlace}(h:DataW.LaidVars P w ((n,d)::r) ps):
  (∃ g t cs fuel p,P.globalNamed n=some g∧(P.globals[g]?).map (·.type)=some t∧w.var? P n=some cs∧DataW.trod (fun _=>()) P w 0 (fun _=>true) false fuel t cs.toList=some (d,p))∧∃ q,DataW.LaidVars P w r q:=by
 obtain⟨g,t,cs,fuel,p,q,h1,h2,h3,h4,h5,_⟩:=h
 exact⟨⟨g,t,cs,fuel,p,h1,h2,h3,h4⟩,q,h5⟩
theorem strs_cell {P:Program}{w:World}{name:String}{zs:List (LU)}{g0:Nat}{t0 e:TypeId}{n:Nat}
  (hg:P.globalNamed name=some g0)(hty:(P.globals[g0]?).map (·.type)=some t0)(ht:P.underlying t0=some (.array n e))(he:P.underlying e=some .string)(hce:P.cellsOf e=1)(hct:P.cellsOf t0=n)
  (h:∃ g t cs fuel p,P.globalNamed name=some g∧(P.globals[g]?).map (·.type)=some t∧w.var? P name=some cs∧DataW.trod (fun _=>()) P w 0 (fun _=>true) false fuel t cs.toList=some (.agg (zs.map fun z=>.lit (.string z)),p))
  (i:Nat)(z:LU)(hi:zs[i]?=some z):w.cell? ⟨g0,i,none⟩=some (.string ⟨z.toArray⟩):=by
 obtain⟨g',t',cs,fuel,p,hg',ht',hvar,hd⟩:=h
 obtain rfl:=Option.some.inj (hg.symm.trans hg')
 obtain rfl:=Option.some.inj (hty.symm.trans ht')
 have hc:=cells_of_strs ht he hce hct hd
 rw[World.var?_cell hg hvar i,←Array.getElem?_toList,hc]
 simp[hi]
theorem gl_of_laid {W:World}(h:laidMetH Tryz.prog laidAllL W)(hsh:W.ShapedOpen Tryz.prog):Gl W:=by
 obtain⟨ps,h0,_⟩:=data_of_laid h
 obtain⟨_,q1,h1⟩:=laid_cut h0
 obtain⟨c1,q2,h2⟩:=laid_cut h1
 obtain⟨c2,q3,h3⟩:=laid_cut h2
 obtain⟨c3,q4,h4⟩:=laid_cut h3
 obtain⟨c4,q5,h5⟩:=laid_cut h4
 obtain⟨c5,q6,h6⟩:=laid_cut h5
 refine⟨Tryz.laysM145.s1_3 W hsh,?_,?_,?_,?_,?_⟩
 ·intro i hi
  have e:=strs_cell (zs:=[[97,108,112,104,97],[98,101,116,97],[112,114,101],[114,99],[99,118,115],[115,118,110],[103,105,116],[104,103],[112]]) (g0:=1) (t0:=204) (e:=9) (n:=9) (by kernel_rfl) (by kernel_rfl) Tryz.underlying204 Tryz.underlying9 (by kernel_rfl) (by kernel_rfl) c1
  rcases(by omega:i=0∨i=1∨i=2∨i=3∨i=4∨i=5∨i=6∨i=7∨i=8) with rfl | rfl | rfl | rfl | rfl | rfl | rfl | rfl | rfl
  all_goals exact e _ _ rfl
 ·intro i hi
  have e:=strs_cell (zs:=[[],[60,60],[60,61],[61],[62,61],[62,62]]) (g0:=2) (t0:=208) (e:=9) (n:=6) (by kernel_rfl) (by kernel_rfl) Tryz.underlying208 Tryz.underlying9 (by kernel_rfl) (by kernel_rfl) c3
  rcases(by omega:i=0∨i=1∨i=2∨i=3∨i=4∨i=5) with rfl | rfl | rfl | rfl | rfl | rfl
  all_goals exact e _ _ rfl
 ·intro i hi
  have e:=strs_cell (zs:=[[],[60],[60,61],[61],[62,61],[62]]) (g0:=3) (t0:=208) (e:=9) (n:=6) (by kernel_rfl) (by kernel_rfl) Tryz.underlying208 Tryz.underlying9 (by kernel_rfl) (by kernel_rfl) c4
  rcases(by omega:i=0∨i=1∨i=2∨i=3∨i=4∨i=5) with rfl | rfl | rfl | rfl | rfl | rfl
  all_goals exact e _ _ rfl
 ·intro i hi
  have e:=strs_cell (zs:=[[97,110,100],[111,114],[105,102],[117,110,108,101,115,115],[119,105,116,104],[119,105,116,104,111,117,116]]) (g0:=6) (t0:=208) (e:=9) (n:=6) (by kernel_rfl) (by kernel_rfl) Tryz.underlying208 Tryz.underlying9 (by kernel_rfl) (by kernel_rfl) c5
  rcases(by omega:i=0∨i=1∨i=2∨i=3∨i=4∨i=5) with rfl | rfl | rfl | rfl | rfl | rfl
  all_goals exact e _ _ rfl
 ·intro i hi
  have e:=strs_cell (zs:=[[],[60],[60,61],[61],[62,61],[62],[126]]) (g0:=0) (t0:=179) (e:=9) (n:=7) (by kernel_rfl) (by kernel_rfl) Tryz.underlying179 Tryz.underlying9 (by kernel_rfl) (by kernel_rfl) c2
  rcases(by omega:i=0∨i=1∨i=2∨i=3∨i=4∨i=5∨i=6) with rfl | rfl | rfl | rfl | rfl | rfl | rfl
  all_goals exact e _ _ rfl
end
section
open Go.ChangeShapes Go.WideShapes Go.Deep Go.RowKit
theorem et_named : Tryz.prog.globalNamed "errors.errorType" = some 5 := by kernel_rfl
theorem rt_cut : (Tryz.prog.cutTypes.find? (·.1 == "internal/reflectlite.rtype")).map (·.2) = some 301 := by kernel_rfl
theorem error_row:((List.range Tryz.prog.types.size).filter fun t=>Tryz.prog.rowNamed t [101,114,114,111,114])=[174]:=by kernel_rfl
theorem error_handle:typeHandle Tryz.prog 174=.pointer (some ⟨9,174,none⟩):=by kernel_rfl
theorem gle_of_laid {W:World}(h:laidMetH Tryz.prog laidAllL W)(hsh:W.ShapedOpen Tryz.prog):GlE W:=by
 refine⟨gl_of_laid h hsh,?_⟩
 have h' : laidMet Tryz.prog laidDataL W ∧ handlesMet Tryz.prog [("errors.errorType", Rows.laid_errors_errorType)] W := h
 obtain⟨name,u,ty,e1,e2,e3,e4,e5⟩:=h'.2 _ (List.mem_singleton.2 rfl)
 have en:name=[101,114,114,111,114]:=(Option.some.inj e1).symm
 subst en
 obtain rfl:=Option.some.inj (rt_cut.symm.trans e2)
 have hm:ty∈(List.range Tryz.prog.types.size).filter fun t=>Tryz.prog.rowNamed t [101,114,114,111,114]:=List.mem_filter.2 ⟨List.mem_range.2 e3,e4⟩
 rw[error_row] at hm
 obtain rfl:=List.mem_singleton.1 hm
 rw[error_handle] at e5
 simpa using World.var?_cell et_named e5 0
end
end Go.Proofs.YtdfdllbebfoggaaGreatDoor
