/- A part of the proof that ModelPackages holds. No condition. -/
import Derived.ChangeSame
import Derived.Test.YtdfdllbebfoggaaGreatDoorC00
set_option maxRecDepth 100000
set_option maxHeartbeats 20000000
set_option linter.unusedVariables false
set_option linter.unusedSimpArgs false
namespace Go.Proofs.YtdfdllbebfoggaaGreatDoor
section
open Go.RowKit
theorem bthen {w w1 w2:World}(h1:Below w.heap.size w w1)(h2:Below w1.heap.size w1 w2):Below w.heap.size w w2:=h1.trans (h2.mono h1.size)
def aw (fmt:Int)(n:Nat):ByteArray:=
 if fmt=1 then (match n with | 0=>⟨#[97,109,100,54,52]⟩ | 1=>⟨#[97,114,109,54,52]⟩ | _=>⟨#[97,108,108]⟩)
 else (match n with | 0=>⟨#[120,56,54,95,54,52]⟩ | 1=>⟨#[97,97,114,99,104,54,52]⟩ | _=>⟨#[110,111,97,114,99,104]⟩)
theorem idx3_0 (x0 x1 x2:Value)(w:World):(Instr.index 62 (.agg #[x0,x1,x2]) (.int .i64 0)).run Tryz.prog w=.ok x0 w:=by kernel_rfl
theorem idx3_1 (x0 x1 x2:Value)(w:World):(Instr.index 62 (.agg #[x0,x1,x2]) (.int .i64 1)).run Tryz.prog w=.ok x1 w:=by kernel_rfl
theorem idx3_2 (x0 x1 x2:Value)(w:World):(Instr.index 62 (.agg #[x0,x1,x2]) (.int .i64 2)).run Tryz.prog w=.ok x2 w:=by kernel_rfl
theorem model_archs (n:Int)(w:World):
  Calls Tryz.prog 32 #[.int .i64 n] w fun e w'=>e=.returned (.agg #[.string (aw n 0),.string (aw n 1),.string (aw n 2)])∧Below w.heap.size w w':=by
 by_cases h:n=1
 ·subst h
  go_enter Tryz.func32,Tryz.ntmps32
  go_wp2
  refine bodyPost_ret (v:=.agg #[.string (aw 1 0),.string (aw 1 1),.string (aw 1 2)]) (by simp[results,Tryz.results32,go_sem,aw]) rfl ⟨rfl,?_⟩
  exact(Below.refl _ _).alloc lr _
 ·have hb:(n==1)=false:=by simpa using h
  go_enter Tryz.func32,Tryz.ntmps32
  go_wp2
  refine bodyPost_ret (v:=.agg #[.string (aw n 0),.string (aw n 1),.string (aw n 2)]) (by simp[results,Tryz.results32,go_sem,aw,h]) rfl ⟨rfl,?_⟩
  exact(Below.refl _ _).alloc lr _
theorem ref_machine (n:Int)(k:Nat)(hk:k<3)(w:World):
  Calls Tryz.prog 40 #[.int .i64 n,.int .i64 k] w fun e w'=>e=.returned (.string (aw n k))∧Below w.heap.size w w':=by
 by_cases h:n=1
 ·subst h
  go_enter Tryz.func40,Tryz.ntmps40
  go_wp2
  go_ret
  refine⟨?_,((Below.refl _ _).alloc lr _).alloc (by simp) _⟩
  rcases(by omega:k=0∨k=1∨k=2) with rfl | rfl | rfl<;>simp[aw]
 ·have hb:(n==1)=false:=by simpa using h
  go_enter Tryz.func40,Tryz.ntmps40
  go_wp2
  go_ret
  refine⟨?_,(Below.refl _ _).alloc lr _⟩
  rcases(by omega:k=0∨k=1∨k=2) with rfl | rfl | rfl<;>simp[aw,h]
def archOf (a b:Int)(s:ByteArray):ByteArray×Int:=
 if fmtB a=false∨fmtB b=false then (⟨#[]⟩,9)
 else if aw a 0=s then (aw b 0,0) else if aw a 1=s then (aw b 1,0) else if aw a 2=s then (aw b 2,0) else (⟨#[]⟩,11)
def archV (r:ByteArray×Int):Value:=.tuple #[.string r.1,.int .i64 r.2]
theorem beq_bl (s t:ByteArray):(s.toList==t.toList)=decide (s=t):=by
 rw[bl_toList,bl_toList,Bool.eq_iff_iff];simp;exact⟨bl_inj,fun h=>by rw[h]⟩
theorem model_Arch (a b:Int)(s:ByteArray)(w:World):
  Calls Tryz.prog 12 #[.int .i64 a,.int .i64 b,.string s] w fun e w'=>e=.returned (archV (archOf a b s))∧Below w.heap.size w w':=by
 have i0:=idx3_0
 have i1:=idx3_1
 have i2:=idx3_2
 by_cases ha:fmtB a=false
 ·go_enter Tryz.func12,Tryz.ntmps12
  go_wp2_with (go_at_call 29;refine(model_isFormat _ _).mono ?_;rintro e w' ⟨rfl,rfl⟩)
  go_ret2
  exact⟨by simp[archV,archOf,ha],Below.refl _ _⟩
 simp only[Bool.not_eq_false] at ha
 by_cases hb:fmtB b=false
 ·go_enter Tryz.func12,Tryz.ntmps12
  go_wp2_with (go_at_call 29;refine(model_isFormat _ _).mono ?_;rintro e w' ⟨rfl,rfl⟩)
  go_ret2
  exact⟨by simp[archV,archOf,hb],Below.refl _ _⟩
 simp only[Bool.not_eq_false] at hb
 go_enter Tryz.func12,Tryz.ntmps12
 go_wp2_with (first | (go_at_call 29;refine(model_isFormat _ _).mono ?_;rintro e w' ⟨rfl,rfl⟩) | (go_at_call 32;refine(model_archs _ _).mono ?_;rintro e w1 ⟨rfl,hb1⟩))
 refine wp_loop_rounds 4 ?_
 rw[rounds_succ]
 go_wp2_with (go_at_call 32;refine(model_archs _ _).mono ?_;rintro e w2 ⟨rfl,hb2⟩)
 ·have h0:((aw a 0).toList==s.toList)=true:=by assumption
  rw[beq_bl,decide_eq_true_iff] at h0
  go_ret2
  exact⟨by simp[archV,archOf,ha,hb,h0],bthen hb1 hb2⟩
 have h0:((aw a 0).toList==s.toList)=false:=by assumption
 have H0:=hid h0;clear h0
 rw[rounds_succ]
 go_wp2_with (go_at_call 32;refine(model_archs _ _).mono ?_;rintro e w2 ⟨rfl,hb2⟩)
 ·have h1:((aw a 1).toList==s.toList)=true:=by assumption
  have h0:=H0.out
  rw[beq_bl,decide_eq_true_iff] at h1
  rw[beq_bl,decide_eq_false_iff_not] at h0
  go_ret2
  exact⟨by simp[archV,archOf,ha,hb,h0,h1],bthen hb1 hb2⟩
 have h1:((aw a 1).toList==s.toList)=false:=by assumption
 have H1:=hid h1;clear h1
 rw[rounds_succ]
 go_wp2_with (go_at_call 32;refine(model_archs _ _).mono ?_;rintro e w2 ⟨rfl,hb2⟩)
 ·have h2:((aw a 2).toList==s.toList)=true:=by assumption
  have h0:=H0.out
  have h1:=H1.out
  rw[beq_bl,decide_eq_true_iff] at h2
  rw[beq_bl,decide_eq_false_iff_not] at h0 h1
  go_ret2
  exact⟨by simp[archV,archOf,ha,hb,h0,h1,h2],bthen hb1 hb2⟩
 have h2:((aw a 2).toList==s.toList)=false:=by assumption
 have H2:=hid h2;clear h2
 rw[rounds_succ]
 go_wp2_with fail
 have h0:=H0.out
 have h1:=H1.out
 have h2:=H2.out
 rw[beq_bl,decide_eq_false_iff_not] at h0 h1 h2
 go_ret2
 exact⟨by simp[archV,archOf,ha,hb,h0,h1,h2],hb1⟩
theorem ref_machine0 (n:Int)(w:World):Calls Tryz.prog 40 #[.int .i64 n,.int .i64 0] w fun e w'=>e=.returned (.string (aw n 0))∧Below w.heap.size w w':=ref_machine n 0 (by omega) w
theorem ref_machine1 (n:Int)(w:World):Calls Tryz.prog 40 #[.int .i64 n,.int .i64 1] w fun e w'=>e=.returned (.string (aw n 1))∧Below w.heap.size w w':=ref_machine n 1 (by omega) w
theorem ref_machine2 (n:Int)(w:World):Calls Tryz.prog 40 #[.int .i64 n,.int .i64 2] w fun e w'=>e=.returned (.string (aw n 2))∧Below w.heap.size w w':=ref_machine n 2 (by omega) w
theorem ref_Arch (a b:Int)(s:ByteArray)(w:World):
  Calls Tryz.prog 13 #[.int .i64 a,.int .i64 b,.string s] w fun e w'=>e=.returned (archV (archOf a b s))∧Below w.heap.size w w':=by
 by_cases ha:fmtB a=false∨fmtB b=false
 ·have ha':a<1∨3<a∨b<1∨3<b:=by simp[fmtB] at ha;omega
  go_enter Tryz.func13,Tryz.ntmps13
  go_wp2_with fail
  all_goals (go_ret2;exact⟨by simp[archV,archOf,ha],Below.refl _ _⟩)
 ·have ha':1≤a∧a≤3∧1≤b∧b≤3:=by simp[fmtB] at ha;omega
  have HA:=hid ha;clear ha
  obtain⟨a1,a2,b1,b2⟩:=ha'
  go_enter Tryz.func13,Tryz.ntmps13
  go_wp2_with fail
  refine wp_loop_rounds 4 ?_
  rw[rounds_succ]
  go_wp2_with fail
  refine(ref_machine0 _ _).mono ?_;rintro e w1 ⟨rfl,hb1⟩
  go_wp2_with (go_at_call 40;refine(ref_machine0 _ _).mono ?_;rintro e w2 ⟨rfl,hb2⟩)
  ·have h0:((aw a 0).toList==s.toList)=true:=by assumption
   rw[beq_bl,decide_eq_true_iff] at h0
   have hA:=HA.out
   go_ret2
   exact⟨by simp[archV,archOf,hA,h0],bthen hb1 hb2⟩
  have h0:((aw a 0).toList==s.toList)=false:=by assumption
  have H0:=hid h0;clear h0
  rw[rounds_succ]
  go_wp2_with fail
  refine(ref_machine1 _ _).mono ?_;rintro e w2 ⟨rfl,hb2⟩
  go_wp2_with (go_at_call 40;refine(ref_machine1 _ _).mono ?_;rintro e w3 ⟨rfl,hb3⟩)
  ·have h1:((aw a 1).toList==s.toList)=true:=by assumption
   have h0:=H0.out
   have hA:=HA.out
   rw[beq_bl,decide_eq_true_iff] at h1
   rw[beq_bl,decide_eq_false_iff_not] at h0
   go_ret2
   exact⟨by simp[archV,archOf,hA,h0,h1],bthen (bthen hb1 hb2) hb3⟩
  have h1:((aw a 1).toList==s.toList)=false:=by assumption
  have H1:=hid h1;clear h1
  rw[rounds_succ]
  go_wp2_with fail
  refine(ref_machine2 _ _).mono ?_;rintro e w3 ⟨rfl,hb3⟩
  go_wp2_with (go_at_call 40;refine(ref_machine2 _ _).mono ?_;rintro e w4 ⟨rfl,hb4⟩)
  ·have h2:((aw a 2).toList==s.toList)=true:=by assumption
   have h0:=H0.out
   have h1:=H1.out
   have hA:=HA.out
   rw[beq_bl,decide_eq_true_iff] at h2
   rw[beq_bl,decide_eq_false_iff_not] at h0 h1
   go_ret2
   exact⟨by simp[archV,archOf,hA,h0,h1,h2],bthen (bthen (bthen hb1 hb2) hb3) hb4⟩
  have h2:((aw a 2).toList==s.toList)=false:=by assumption
  have H2:=hid h2;clear h2
  rw[rounds_succ]
  go_wp2_with fail
  have h0:=H0.out
  have h1:=H1.out
  have h2:=H2.out
  have hA:=HA.out
  rw[beq_bl,decide_eq_false_iff_not] at h0 h1 h2
  go_ret2
  exact⟨by simp[archV,archOf,hA,h0,h1,h2],bthen (bthen hb1 hb2) hb3⟩
end
section
open Go.RowKit
def vWord:Nat→ByteArray
 | 0=>⟨#[97,108,112,104,97]⟩
 | 1=>⟨#[98,101,116,97]⟩
 | 2=>⟨#[112,114,101]⟩
 | 3=>⟨#[114,99]⟩
 | 4=>⟨#[99,118,115]⟩
 | 5=>⟨#[115,118,110]⟩
 | 6=>⟨#[103,105,116]⟩
 | 7=>⟨#[104,103]⟩
 | _=>⟨#[112]⟩
def dSign:Nat→ByteArray
 | 0=>⟨#[]⟩
 | 1=>⟨#[60,60]⟩
 | 2=>⟨#[60,61]⟩
 | 3=>⟨#[61]⟩
 | 4=>⟨#[62,61]⟩
 | _=>⟨#[62,62]⟩
def rSign:Nat→ByteArray
 | 0=>⟨#[]⟩
 | 1=>⟨#[60]⟩
 | 2=>⟨#[60,61]⟩
 | 3=>⟨#[61]⟩
 | 4=>⟨#[62,61]⟩
 | _=>⟨#[62]⟩
def aSign:Nat→ByteArray
 | 0=>⟨#[]⟩
 | 1=>⟨#[60]⟩
 | 2=>⟨#[60,61]⟩
 | 3=>⟨#[61]⟩
 | 4=>⟨#[62,61]⟩
 | 5=>⟨#[62]⟩
 | _=>⟨#[126]⟩
def rWord:Nat→ByteArray
 | 0=>⟨#[97,110,100]⟩
 | 1=>⟨#[111,114]⟩
 | 2=>⟨#[105,102]⟩
 | 3=>⟨#[117,110,108,101,115,115]⟩
 | 4=>⟨#[119,105,116,104]⟩
 | _=>⟨#[119,105,116,104,111,117,116]⟩
structure Gl (w:World):Prop where
 ml:∃ m:Int,w.cell? ⟨4,0,none⟩=some (.int .i64 m)
 vwd:∀ i,i<9→w.cell? ⟨1,i,none⟩=some (.string (vWord i))
 dsg:∀ i,i<6→w.cell? ⟨2,i,none⟩=some (.string (dSign i))
 rsg:∀ i,i<6→w.cell? ⟨3,i,none⟩=some (.string (rSign i))
 rwd:∀ i,i<6→w.cell? ⟨6,i,none⟩=some (.string (rWord i))
 asg:∀ i,i<7→w.cell? ⟨0,i,none⟩=some (.string (aSign i))
theorem Gl.keep {w w':World}(h:Gl w)(hk:∀ p:Addr,p.block<w.heap.size→w'.cell? p=w.cell? p):Gl w':=by
 obtain⟨⟨m,hm⟩,h1,h2,h3,h4,h5⟩:=h
 refine⟨⟨m,?_⟩,fun i hi=>?_,fun i hi=>?_,fun i hi=>?_,fun i hi=>?_,fun i hi=>?_⟩
 ·exact(hk _ (World.block_lt_of_cell? _ _ hm)).trans hm
 ·exact(hk _ (World.block_lt_of_cell? _ _ (h1 i hi))).trans (h1 i hi)
 ·exact(hk _ (World.block_lt_of_cell? _ _ (h2 i hi))).trans (h2 i hi)
 ·exact(hk _ (World.block_lt_of_cell? _ _ (h3 i hi))).trans (h3 i hi)
 ·exact(hk _ (World.block_lt_of_cell? _ _ (h4 i hi))).trans (h4 i hi)
 ·exact(hk _ (World.block_lt_of_cell? _ _ (h5 i hi))).trans (h5 i hi)
theorem Gl.below {w w':World}(h:Gl w)(hb:Below w.heap.size w w'):Gl w':=h.keep fun _ hp=>hb.cell hp
theorem Gl.alloc {w:World}(h:Gl w)(o:Obj):Gl (w.alloc o):=h.below ((Below.refl _ _).alloc lr o)
theorem below_drewN {B:Nat}{a w:World}(h:Below B a w)(n:Nat):Below B a (w.drewN n):=⟨h.os,h.tape,h.output,h.size,h.block⟩
end
section
open Go.RowKit Go.Maps
def RV (v:Value):Option (DataW Value×List MemPlace):=some (.held v,[])
theorem held_inj {a b:Value}(h:(DataW.held a:DataW Value)=.held b):a=b:=by injection h
theorem strKeyed:Keyed Tryz.prog 9:=string_keyed Tryz.underlying9
def kl (s:ByteArray):Lit:=.string s.data.toList
theorem kl_ne {s t:ByteArray}(h:s≠t):kl s≠kl t:=by
 intro he;apply h;unfold kl at he;injection he with he;exact bl_inj he
def MapIs (w:World)(b n:Nat)(f:ByteArray→Option Value):Prop:=
 ∃ D:DataW Value,w.ownsMap Tryz.prog 9 RV b n D∧∀ s:ByteArray,s.size≤maxLen→(Maps.has D (kl s)=(f s).isSome∧∀ z v,f s=some v→D.atKey (kl s) z=.held v)
theorem MapIs.made (w:World):MapIs (w.alloc (.map #[] 0)) w.heap.size 0 (fun _=>none):=
 ⟨.map [],World.ownsMap_made _ _ _ _,fun s _=>⟨rfl,fun z v h=>by cases h⟩⟩
theorem MapIs.kept {w w':World}{b n:Nat}{f:ByteArray→Option Value}{row:Option Nat}(h:MapIs w b n f)(hg:w.grownBy w' row)(hne:some b≠row):MapIs w' b n f:=by
 obtain⟨D,h1,h2⟩:=h
 exact⟨D,h1.kept hg hne,h2⟩
theorem MapIs.below {w w':World}{b n:Nat}{f:ByteArray→Option Value}(h:MapIs w b n f)(hb:Below w.heap.size w w'):MapIs w' b n f:=by
 obtain⟨D,h1,h2⟩:=h
 exact⟨D,h1.kept (row:=none) ⟨hb.os,hb.tape,hb.output,hb.size,fun i hi _=>hb.block i hi⟩ (by simp),h2⟩
theorem key_of (s:ByteArray)(h:s.size≤maxLen):keyOf Tryz.prog 9 (.string s)=some (kl s):=Go.WideMaps.keyOf_string_mk Tryz.underlying9 h
theorem MapIs.look_ok {w:World}{b n:Nat}{f:ByteArray→Option Value}(h:MapIs w b n f){t e:TypeId}(ht:Tryz.prog.underlying t=some (.map 9 e)){z:Value}(hz:∀ w,(zeroValue e).run Tryz.prog w=.ok z w)(s:ByteArray)(hs:s.size≤maxLen):
  (Instr.lookup t (.map (some b)) (.string s) true).run Tryz.prog w=.ok (.tuple #[(f s).getD z,.bool (f s).isSome]) w:=by
 obtain⟨D,h1,h2⟩:=h
 obtain⟨v,ps,hrun,hv⟩:=h1.look_ok strKeyed ht (hz w) (show RV z=some (.held z,[]) from rfl) (key_of s hs)
 obtain⟨h3,h4⟩:=h2 s hs
 rw[hrun,h3]
 have:DataW.held v=D.atKey (kl s) (.held z):=congrArg Prod.fst (Option.some.inj hv)
 cases hf:f s with
 | none=>
  rw[hf] at h3
  rw[atKey_of_not_has (by simpa using h3)] at this
  rw[held_inj this];rfl
 | some u=>
  rw[h4 (.held z) u hf] at this
  rw[held_inj this];rfl
theorem MapIs.put {w:World}{b n:Nat}{f:ByteArray→Option Value}(h:MapIs w b n f){t e:TypeId}(ht:Tryz.prog.underlying t=some (.map 9 e))(hn:n<maxLen)(s:ByteArray)(hs:s.size≤maxLen)(v:Value):
  ∃ w',(Instr.mapUpdate t (.map (some b)) (.string s) v).run Tryz.prog w=.ok () w'∧MapIs w' b (n+1) (fun x=>if x=s then some v else f x)∧w.grownBy w' (some b):=by
 obtain⟨D,h1,h2⟩:=h
 obtain⟨w',hrun,hown,hg⟩:=h1.update strKeyed ht hn (key_of s hs) (show RV v=some (.held v,[]) from rfl)
 have hm:=(h1.tidy strKeyed).isMap
 refine⟨w',hrun,⟨_,hown,fun x hx=>?_⟩,hg⟩
 by_cases hxs:x=s
 ·subst hxs
  have hk:WideAt.IsKeyLit (kl x):=trivial
  simp only[if_pos]
  exact⟨by rw[has_put_same hm hk];rfl,fun z u hu=>by have hu:=Option.some.inj hu;subst hu;exact atKey_put_same hm hk _ _⟩
 ·simp only[if_neg hxs]
  obtain⟨h3,h4⟩:=h2 x hx
  exact⟨by rw[has_put_other (kl_ne hxs)];exact h3,fun z u hu=>by rw[atKey_put_other (kl_ne hxs)];exact h4 z u hu⟩
end
section
open Go.RowKit Go.Maps
theorem MapIs.alloc {w:World}{b n:Nat}{f:ByteArray→Option Value}(h:MapIs w b n f)(o:Obj):MapIs (w.alloc o) b n f:=h.kept (World.grownBy_alloc w o none) (by simp)
theorem ownsRow_ne {W:World}{base:Nat}{e t:TypeId}{size n b:Nat}{v:Value}{xs:List Value}{cs:Array Value}{fr:Nat×Nat}(h:W.ownsRow base e size v n xs)(hb:W.heap[b]?=some (.cells cs t fr))(hne:t≠e):some b≠v.ownBlock:=by
 intro he
 rcases h.2 with⟨rfl,_⟩ | ⟨g,cap,cur,rfl,_,hg,_⟩
 ·simp[Value.ownBlock] at he
 ·simp[Value.ownBlock] at he
  subst he
  rw[hb] at hg
  injection hg with hg
  injection hg with _ h2 _
  exact hne h2
end
section
open Go.RowKit
theorem rows_apart {W:World}{b1 b2:Nat}{e1 e2:TypeId}{s1 s2 n1 n2:Nat}{v1 v2:Value}{x1 x2:List Value}(h1:W.ownsRow b1 e1 s1 v1 n1 x1)(h2:W.ownsRow b2 e2 s2 v2 n2 x2)(hne:e1≠e2):v1.ownBlock=none∨v1.ownBlock≠v2.ownBlock:=by
 rcases h1.2 with⟨rfl,_⟩ | ⟨g,cap,cur,rfl,_,hg,_⟩
 ·exact .inl rfl
 ·exact .inr (ownsRow_ne h2 hg hne)
end
section
open Go.RowKit Go.WideShapes Go.ChangeShapes
section
variable {H : Type} {enc : TypeId × Value → H} {P : Program}
theorem post_of_below {f:Func}{s:ChangeSpec}{apart fresh handsOn again:Bool}{W W':World}{args:Array Value}{v:Value}{ds gs:List (DataW H)}{before pa pv:List MemPlace}
  (hW:DataW.Whole enc P f.params.toList s.vars apart W args.toList ds gs before)
  (hres:∀ (b:Nat)(sp:Nat→Bool)(hd:Bool),DataW.TrodAll enc P W' b sp hd f.resultTypes.toList (v.resultList f.resultTypes.size) (s.fn H (ds++gs)).results [])
  (hargs:∀ sp:Nat→Bool,(∀ p∈before,sp p.block=true)→DataW.TrodAll enc P W' 0 sp true f.params.toList args.toList (s.fn H (ds++gs)).args pa)
  (hvars:∀ sp:Nat→Bool,(∀ p∈before,sp p.block=true)→DataW.TrodVars enc P W' sp s.vars (s.fn H (ds++gs)).vars pv)
  (hps:before=pa++pv)(hb:Below W.heap.size W W')
  (hok:∀ (j:Nat)(t:TypeId)(r:Value),f.resultTypes[j]?=some t→(v.resultList f.resultTypes.size)[j]?=some r→Value.okWide P W' .any 0 t r):
  s.post enc P f apart fresh handsOn again W args v W':=by
 have hlt:∀ p∈before,p.block<W.heap.size:=fun p hp=>hW.lt p hp
 have hold:∀ p∈before,(fun b=>decide (b<W.heap.size)) p.block=true:=fun p hp=>by simpa using hlt p hp
 refine⟨ds,gs,before,[],pa,pv,hW,hres _ _ _,hargs _ hold,hvars _ hold,World.keptBut_mono (fun p hp=>⟨hp,?_⟩) (hb.frame (·∈before)),fun _=>?_⟩
 ·rw[hps,List.mem_append] at hp
  exact Or.inr hp
 ·obtain⟨_,_,_,_,_,hz,hn⟩:=hW
  refine⟨hok,_,_,([]++pa)++pv,⟨[]++pa,pv,trodAll_append (hargs _ (fun _ _=>rfl)) (hres _ _ _),hvars _ (fun _ _=>rfl),rfl,?_,?_⟩,?_⟩
  ·intro b off hp
   have hin:MemPlace.cell b off∈before:=by rw[hps];simpa using hp
   rw[hb.frozen (hlt _ hin)]
   exact hz b off hin
  ·intro ha
   have:=hn ha
   rw[hps] at this
   simpa using this
  ·intro p hp _
   rw[hps]
   simpa using hp
end
end
end Go.Proofs.YtdfdllbebfoggaaGreatDoor
