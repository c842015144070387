/- A part of the proof. -/
import Derived.Test.YtaohgmcbpafdeaaGreatDoorA05
import Derived.Test.YtaohgmcbpafdeaaGreatDoorA09
import Derived.Test.YtaohgmcbpafdeaaGreatDoorA10
import Derived.Test.YtaohgmcbpafdeaaGreatDoorA13
set_option maxRecDepth 100000
set_option maxHeartbeats 20000000
set_option linter.unusedVariables false
set_option linter.unusedSimpArgs false
namespace Go.Proofs.YtaohgmcbpafdeaaGreatDoor
section
open Go.RowKit
def M8:LU:=[48,49,50,51,52,53,54,55,56,57,97,98,99,100,101,102]
def Ot:BA:=⟨#[48,49,50,51,52,53,54,55,56,57,97,98,99,100,101,102]⟩
def Fh (l:LU):Bool:=l.all fun c=>M8.contains c
def IE (fmt:Int):Nat:=if fmt=1 then 32 else if fmt=2 then 64 else 40
def IF (fmt:Int)(s:BA):Bool:=decide (s.size=IE fmt)&&Fh (bl s)
theorem mv {p:UInt8→Bool}:∀ (m:LU),(∀ x∈m.dropWhile p,p x=true)→∀ x∈m,p x=true
 | [],_,x,h=>by simp at h
 | a::r,h,x,hx=>by
  cases ha:p a
  ·have:(a::r).dropWhile p=a::r:=by simp[List.dropWhile,ha]
   rw[this] at h
   have:=h a (by simp)
   rw[ha] at this;cases this
  ·have e:(a::r).dropWhile p=r.dropWhile p:=by simp[List.dropWhile,ha]
   rw[e] at h
   rcases List.mem_cons.1 hx with rfl | hx
   ·exact ha
   ·exact mv r h x hx
theorem mw {p:UInt8→Bool}:∀ (m:LU),m.dropWhile p=[]↔∀ x∈m,p x=true
 | []=>by simp
 | a::r=>by
  cases ha:p a
  ·simp[List.dropWhile,ha]
  ·have:=mw (p:=p) r
   simp[List.dropWhile,ha,this]
theorem Fi (l cs:LU):Lib.trimS l cs=[]↔l.all (fun c=>cs.contains c)=true:=by
 unfold Lib.trimS Lib.trimLeftS Lib.trimRightS
 rw[mw,List.all_eq_true]
 constructor
 ·intro h x hx
  exact mv l.reverse (fun y hy=>h y (List.mem_reverse.2 hy)) x (List.mem_reverse.2 hx)
 ·intro h x hx
  have hx:=List.mem_reverse.1 hx
  have hx2:x∈l.reverse:=(List.dropWhile_suffix _).subset hx
  exact h x (List.mem_reverse.1 hx2)
theorem rP (s:BA)(w:World)(hs:s.size≤9223372036854775807):
  Calls Tryz.prog 172 #[.string s,.string Ot] w fun e w'=>(∃ t:BA,e=.returned (.string t)∧t.toList.isEmpty=Fh (bl s))∧Below w.heap.size w w':=
 (Any.strings_Trim_ascii Tryz.lays160 (fun w=>by kernel_rfl) (by kernel_rfl) s Ot w hs (by decide) (fun j b hj=>by
  have hm:b∈M8:=gM hj
  simp only[M8,List.mem_cons,List.not_mem_nil,or_false] at hm
  rcases hm with rfl | rfl | rfl | rfl | rfl | rfl | rfl | rfl | rfl | rfl | rfl | rfl | rfl | rfl | rfl | rfl<;>decide)).mono fun e w' ⟨he,hb⟩=>⟨⟨_,he,by
   rw[ah,ii,bI,List.isEmpty_iff]
   exact Fi _ _⟩,hb⟩
theorem rQ (fmt:Int)(hf:fmt=1∨fmt=2∨fmt=3)(s:BA)(w:World)(hs:s.size≤9223372036854775807):
  Calls Tryz.prog 122 #[.int .i64 fmt,.string s] w fun e w'=>e=.returned (.bool (IF fmt s))∧Below w.heap.size w w':=by
 have key:∀ n:Nat,IE fmt=n→IF fmt s=(decide (s.size=n)&&Fh (bl s)):=fun n hn=>by unfold IF;rw[hn]
 rcases hf with rfl | rfl | rfl
 ·have K:=ae (key 32 (by decide))
  clear key
  by_cases hl:s.size=32
  ·have hl1:((s.size:Int)==32)=true:=mU hl
   have E:Hid (IF 1 s=Fh (bl s)):=by show _=_;rw[K.out,dT hl];rfl
   clear hl
   go_enter Tryz.func122,Tryz.ntmps122
   go_wp2_with fail
   refine(rP s _ hs).mono ?_;rintro e w1 ⟨⟨t,rfl,ht⟩,hb⟩
   have HT:=ae ht;have HB:=ae hb;clear ht hb
   go_wp2_with fail
   go_ret
   exact⟨af (by rw[E.out];exact HT.out),HB.out⟩
  ·have hl1:((s.size:Int)==32)=false:=kU hl
   have E:Hid (IF 1 s=false):=by show _=_;rw[K.out,dF hl];rfl
   clear hl
   go_enter Tryz.func122,Tryz.ntmps122
   go_wp2_with fail
   go_ret
   exact⟨af (by rw[E.out]),bR⟩
 ·have K:=ae (key 64 (by decide))
  clear key
  by_cases hl:s.size=64
  ·have hl1:((s.size:Int)==64)=true:=mU hl
   have E:Hid (IF 2 s=Fh (bl s)):=by show _=_;rw[K.out,dT hl];rfl
   clear hl
   go_enter Tryz.func122,Tryz.ntmps122
   go_wp2_with fail
   refine(rP s _ hs).mono ?_;rintro e w1 ⟨⟨t,rfl,ht⟩,hb⟩
   have HT:=ae ht;have HB:=ae hb;clear ht hb
   go_wp2_with fail
   go_ret
   exact⟨af (by rw[E.out];exact HT.out),HB.out⟩
  ·have hl1:((s.size:Int)==64)=false:=kU hl
   have E:Hid (IF 2 s=false):=by show _=_;rw[K.out,dF hl];rfl
   clear hl
   go_enter Tryz.func122,Tryz.ntmps122
   go_wp2_with fail
   go_ret
   exact⟨af (by rw[E.out]),bR⟩
 ·have K:=ae (key 40 (by decide))
  clear key
  by_cases hl:s.size=40
  ·have hl1:((s.size:Int)==40)=true:=mU hl
   have E:Hid (IF 3 s=Fh (bl s)):=by show _=_;rw[K.out,dT hl];rfl
   clear hl
   go_enter Tryz.func122,Tryz.ntmps122
   go_wp2_with fail
   refine(rP s _ hs).mono ?_;rintro e w1 ⟨⟨t,rfl,ht⟩,hb⟩
   have HT:=ae ht;have HB:=ae hb;clear ht hb
   go_wp2_with fail
   go_ret
   exact⟨af (by rw[E.out];exact HT.out),HB.out⟩
  ·have hl1:((s.size:Int)==40)=false:=kU hl
   have E:Hid (IF 3 s=false):=by show _=_;rw[K.out,dF hl];rfl
   clear hl
   go_enter Tryz.func122,Tryz.ntmps122
   go_wp2_with fail
   go_ret
   exact⟨af (by rw[E.out]),bR⟩
end
section
open Go.RowKit Go.Extern.Stop Go.Stop Go.Extern
theorem Ja (b:Nat)(x y:Int)(w:World)(hG:w.cell? ⟨8,0,none⟩=some (.iface 327 (.agg #[.pointer (some ⟨12,237,none⟩)])))(hB:ax w b [.int .i64 0,.int .i64 0]):
  Calls Tryz.prog 202 #[.iface 274 (.agg #[.int .i64 x,.int .i64 y]),.iface 278 (.pointer (some ⟨b,0,none⟩))] w fun e w'=>e=.returned (.bool true)∧ax w' b [.int .i64 x,.int .i64 y]∧w.grownBy w' (some b):=by
 have e1:=@run_callFunc_extern Tryz.prog 230 _ (fun args=>ReflectliteValue.unpack (args.getD 0 (.tuple #[]))) Tryz.func230 (by kernel_rfl) (by kernel_rfl) (by kernel_rfl) (by kernel_rfl)
 have e2 := @run_callFunc_extern Tryz.prog 231 _ (ReflectliteValue.methodAny (ReflectliteValue.valueError "reflectlite.Value.Type" 0) (fun t _ _ _ => ReflectliteType.toType t)) Tryz.func231 (by kernel_rfl) (by kernel_rfl) (by kernel_rfl) (by kernel_rfl)
 have e3 := @run_callFunc_extern Tryz.prog 232 _ (ReflectliteValue.method (ReflectliteValue.valueError "reflectlite.Value.IsNil" 0) ReflectliteValue.isNil) Tryz.func232 (by kernel_rfl) (by kernel_rfl) (by kernel_rfl) (by kernel_rfl)
 have e4:=@run_callFunc_extern Tryz.prog 268 _ (ReflectliteType.abiMethod fun t=>do pure (.int .u8 (←Rtype.kind t))) Tryz.func268 (by kernel_rfl) (by kernel_rfl) (by kernel_rfl) (by kernel_rfl)
 have e5:=@run_callFunc_extern Tryz.prog 282 _ (ReflectliteType.method ReflectliteType.elem) Tryz.func282 (by kernel_rfl) (by kernel_rfl) (by kernel_rfl) (by kernel_rfl)
 have e6 := @run_callFunc_extern Tryz.prog 283 _ (ReflectliteType.relation "Implements" ReflectliteType.implements_) Tryz.func283 (by kernel_rfl) (by kernel_rfl) (by kernel_rfl) (by kernel_rfl)
 have e7:=@run_callFunc_extern Tryz.prog 249 _ ReflectliteType.typeOf Tryz.func249 (by kernel_rfl) (by kernel_rfl) (by kernel_rfl) (by kernel_rfl)
 have e8 := @run_callFunc_extern Tryz.prog 280 _ (ReflectliteType.relation "AssignableTo" ReflectliteType.assignableTo) Tryz.func280 (by kernel_rfl) (by kernel_rfl) (by kernel_rfl) (by kernel_rfl)
 have e9 := @run_callFunc_extern Tryz.prog 250 _ (ReflectliteValue.method (ReflectliteValue.valueError "reflectlite.Value.Elem" 0) ReflectliteValue.elem) Tryz.func250 (by kernel_rfl) (by kernel_rfl) (by kernel_rfl) (by kernel_rfl)
 have e10:=@run_callFunc_extern Tryz.prog 251 _ ReflectliteValue.set Tryz.func251 (by kernel_rfl) (by kernel_rfl) (by kernel_rfl) (by kernel_rfl)
 have m1:=mC
 have m2:=mD
 have m3:=il
 have m4:=gi
 have q1:=xu
 have q2:=zp
 have q3:=FD
 have q4:=FF
 have q5:=I9
 have q6:=FG
 have q7:=sL
 have q8:=sM
 have q9:=sN
 have hg0:=World.block_lt_of_cell? _ _ hG
 have hg0:8<w.heap.size:=hg0
 have hb0:=hB.sz
 let W1:=w.alloc (.cells #[.pointer (some ⟨b,0,none⟩)] 278)
 let W2:=W1.alloc (.cells #[.pointer (some ⟨12,278,none⟩),.pointer (some ⟨w.heap.size,0,none⟩),.int .u64 150] 303)
 let W3:=W2.alloc (.cells #[.pointer (some ⟨12,278,none⟩),.pointer (some ⟨w.heap.size,0,none⟩),.int .u64 150] 303)
 let W4:=W3.alloc (.cells #[.int .i64 x,.int .i64 y] 274)
 have K1:ax W1 w.heap.size [.pointer (some ⟨b,0,none⟩)]:=ax.new w _ _
 have K2:ax W2 w.heap.size [.pointer (some ⟨b,0,none⟩)]:=K1.alloc _
 have K3:ax W3 w.heap.size [.pointer (some ⟨b,0,none⟩)]:=K2.alloc _
 have K4:ax W4 (w.heap.size+1+1+1) [.int .i64 x,.int .i64 y]:=by have:=ax.new W3 [.int .i64 x,.int .i64 y] 274;simpa [W3,W2,W1] using this
 have T4:ax W4 b [.int .i64 0,.int .i64 0]:=(((hB.alloc _).alloc _).alloc _).alloc _
 have n8:=BO ⟨w.heap.size,0,none⟩ ⟨b,0,none⟩ W2 (K2.cell 0 _ rfl)
 have el:=BQ ⟨w.heap.size,0,none⟩ ⟨b,0,none⟩ W3 (K3.cell 0 _ rfl)
 have st:=LC b (w.heap.size+1+1+1) x y _ _ W4 (K4.cell 0 _ rfl) (K4.cell 1 _ rfl) (T4.cell 0 _ rfl) (T4.cell 1 _ rfl) (T4.free 0 (by simp)) (T4.free 1 (by simp))
 have hg2:W2.cell? ⟨8,0,none⟩=some (.iface 327 (.agg #[.pointer (some ⟨12,237,none⟩)])):=by
  show((w.alloc _).alloc _).cell? _=_
  rw[World.cell?_alloc_lt _ _ ⟨8,0,none⟩ (by simp;omega),World.cell?_alloc_lt _ _ ⟨8,0,none⟩ hg0];exact hG
 have FIN:Hid (ax ((W4.setCell ⟨b,0,none⟩ (.int .i64 x)).setCell ⟨b,1,none⟩ (.int .i64 y)) b [.int .i64 x,.int .i64 y]):=(T4.set 0 (by simp) _).set 1 (by simp) _
 have GRW:Hid (w.grownBy ((W4.setCell ⟨b,0,none⟩ (.int .i64 x)).setCell ⟨b,1,none⟩ (.int .i64 y)) (some b)):=by
  have hb4:Below w.heap.size w W4:=(((bR.alloc lr _).alloc (by simp) _).alloc (by simp;omega) _).alloc (by simp;omega) _
  have g4:w.grownBy W4 (some b):=⟨hb4.os,hb4.tape,hb4.output,hb4.size,fun i hi _=>hb4.block i hi⟩
  exact aY (aY g4 (.inl rfl) _) (.inl rfl) _
 simp only[W4,W3,W2,W1] at n8 el st hg2 FIN GRW
 clear K1 K2 K3 K4 T4 hB
 clear W4 W3 W2 W1
 go_enter Tryz.func202,Tryz.ntmps202
 go_wp2
 refine wp_loop_rounds 1 ?_
 rw[rounds_succ]
 go_wp2
 go_ret
 exact⟨rfl,FIN.out,GRW.out⟩
end
section
open Go.RowKit
theorem ax.grown {wr w':World}{b c:Nat}{vs:LV}(h:ax wr c vs)(hg:wr.grownBy w' (some b))(hne:c≠b):ax w' c vs:=by
 have hk:w'.heap[c]?=wr.heap[c]?:=hg.block c h.sz (by intro e;injection e with e;exact hne e)
 refine⟨Nat.lt_of_lt_of_le h.sz hg.size,fun j u hu=>?_,fun j hj=>?_⟩
 ·exact(World.cell?_of_block (a:=⟨c,j,none⟩) hk).trans (h.cell j u hu)
 ·exact(World.frozen?_of_block (a:=⟨c,j,none⟩) hk).trans (h.free j hj)
def ec (f:BA)(a c:Int):Value:=.agg #[.string f,.int .i64 a,.int .i64 c]
theorem xw (x y p:Int)(w:World)(hG:BV w):
  Calls Tryz.prog 165 #[.iface 274 (.agg #[.int .i64 x,.int .i64 y]),.int .i64 p] w fun e w'=>(∃ a:Int,e=.returned (ec ⟨#[]⟩ a y))∧Below w.heap.size w w':=by
 have HG:=ae hG;clear hG
 go_enter Tryz.func165,Tryz.ntmps165
 go_wp2_with fail
 let W1:=w.alloc (.cells #[.string ⟨#[]⟩,.int .i64 0,.int .i64 0] 172)
 let W2:=W1.alloc (.cells #[.string ⟨#[]⟩,.int .i64 p,.int .i64 3] 172)
 let W3:=W2.alloc (.cells #[.int .i64 0,.int .i64 0] 274)
 have A3:ax W3 w.heap.size [.string ⟨#[]⟩,.int .i64 0,.int .i64 0]:=((ax.new w _ _).alloc _).alloc _
 have F3:ax W3 (w.heap.size+1) [.string ⟨#[]⟩,.int .i64 p,.int .i64 3]:=by have:=(ax.new W1 [.string ⟨#[]⟩,.int .i64 p,.int .i64 3] 172).alloc (.cells #[.int .i64 0,.int .i64 0] 274);simpa [W1] using this
 have T3:ax W3 (w.heap.size+1+1) [.int .i64 0,.int .i64 0]:=by have:=ax.new W2 [.int .i64 0,.int .i64 0] 274;simpa [W2,W1] using this
 have B3:Below w.heap.size w W3:=((bR.alloc lr _).alloc (by simp) _).alloc (by simp;omega) _
 refine(Ja (w.heap.size+1+1) x y W3 (HG.out.below B3).2 T3).mono ?_;rintro e w1 ⟨rfl,t1,hg1⟩
 have KA:Hid (ax w1 w.heap.size [.string ⟨#[]⟩,.int .i64 0,.int .i64 0]):=A3.grown hg1 (by omega)
 have KF:Hid (ax w1 (w.heap.size+1) [.string ⟨#[]⟩,.int .i64 p,.int .i64 3]):=F3.grown hg1 (by omega)
 have KT:Hid (ax w1 (w.heap.size+1+1) [.int .i64 x,.int .i64 y]):=t1
 have BB:Hid (Below w.heap.size w w1):=B3.grown hg1 B3.size (fun j hj=>by injection hj with hj;omega)
 clear t1 hg1 A3 F3 T3 B3
 clear W3 W2 W1
 have f1:=KF.out.cell 1 _ rfl
 have ff1:=KF.out.free 1 (by simp)
 have t0:=KT.out.cell 0 _ rfl
 go_wp2_with fail
 have hw1:=KA.out.sz
 have hw2:=KT.out.sz
 obtain⟨q,hq⟩:∃ q,wrap64 (p+x)=q:=⟨_,rfl⟩
 let V1:=(w1.setCell ⟨w.heap.size+1,1,none⟩ (.int .i64 (wrap64 (p+x)))).alloc (.cells #[.int .i64 0] 28)
 have A1:ax V1 w.heap.size [.string ⟨#[]⟩,.int .i64 0,.int .i64 0]:=(KA.out.far (by omega) _).alloc _
 have F1:ax V1 (w.heap.size+1) [.string ⟨#[]⟩,.int .i64 (wrap64 (p+x)),.int .i64 3]:=(KF.out.set 1 (by simp) _).alloc _
 have T1:ax V1 w1.heap.size [.int .i64 0]:=by have:=ax.new (w1.setCell ⟨w.heap.size+1,1,none⟩ (.int .i64 (wrap64 (p+x)))) [.int .i64 0] 28;simpa using this
 have B1:Below w.heap.size w V1:=(ak BB.out (by omega) _).alloc (by simp;omega) _
 refine(Jc w1.heap.size x y V1 (HG.out.below B1).2 T1).mono ?_;rintro e w2 ⟨rfl,t2,hg2⟩
 have LA:Hid (ax w2 w.heap.size [.string ⟨#[]⟩,.int .i64 0,.int .i64 0]):=A1.grown hg2 (by omega)
 have LF:Hid (ax w2 (w.heap.size+1) [.string ⟨#[]⟩,.int .i64 q,.int .i64 3]):=by rw[←hq];exact F1.grown hg2 (by omega)
 have LT:Hid (ax w2 w1.heap.size [.int .i64 y]):=t2
 have CB:Hid (Below w.heap.size w w2):=B1.grown hg2 B1.size (fun j hj=>by injection hj with hj;omega)
 clear t2 hg2 A1 F1 T1 B1
 clear V1
 clear f1 ff1 t0
 have f0:=LF.out.cell 0 _ rfl
 have f1:=LF.out.cell 1 _ rfl
 have f2:=LF.out.cell 2 _ rfl
 have ff2:=LF.out.free 2 (by simp)
 have t0:=LT.out.cell 0 _ rfl
 have a0:=LA.out.cell 0 _ rfl
 have a1:=LA.out.cell 1 _ rfl
 have a2:=LA.out.cell 2 _ rfl
 have fa0:=LA.out.free 0 (by simp)
 have fa1:=LA.out.free 1 (by simp)
 have fa2:=LA.out.free 2 (by simp)
 go_wp2_with fail
 refine bodyPost_ret (v:=.agg #[.string ⟨#[]⟩,.int .i64 q,.int .i64 y]) (by simp[results,Tryz.results165,go_sem,a0,a1,a2]) rfl ⟨⟨q,rfl⟩,?_⟩
 exact ak (ak (ak (ak CB.out (Nat.le_succ _) _) lr _) lr _) lr _
theorem fz {a w:World}(h:∃ n,w=a.drewN n)(m:Nat):∃ n,w.drewN m=a.drewN n:=by
 obtain⟨n,rfl⟩:=h
 exact⟨n+m,World.drewN_drewN _ _ _⟩
theorem jq (b o j:Nat):(⟨b,o,none⟩:Addr).add j=⟨b,o+j,none⟩:=by unfold Addr.add;split<;>simp_all
theorem tV (b j:Nat):(⟨b,0,none⟩:Addr).add j=⟨b,j,none⟩:=by rw[jq,Nat.zero_add]
theorem ax.setN {b:Nat}(post:LV):∀ (cs old pre:LV)(wr:World),cs.length=old.length→ax wr b (pre++(old++post))→ax (wr.setCells b pre.length cs) b (pre++(cs++post))
 | [],[],_,_,_,h=>h
 | c::cr,o::r,pre,wr,hl,h=>by
  have h1:=h.set pre.length (by simp) c
  rw[List.set_append_right _ _ lr,Nat.sub_self] at h1
  have h2:ax (wr.setCell ⟨b,pre.length,none⟩ c) b ((pre++[c])++(r++post)):=by simpa using h1
  have h3:=ax.setN post cr r (pre++[c]) _ (by simpa using hl) h2
  rw[World.setCells]
  simpa using h3
 | [],_::_,_,_,hl,_=>by simp at hl
 | _::_,[],_,_,hl,_=>by simp at hl
theorem dX {g:Nat}:∀ (cs:LV)(o:Nat)(a w:World),a.grownBy w (some g)→a.grownBy (w.setCells g o cs) (some g)
 | [],_,_,_,h=>h
 | c::r,o,a,w,h=>dX r (o+1) a _ (aY h (p:=⟨g,o,none⟩) (.inl rfl) c)
theorem iA {w:World}{b sl sc dl dc n:Nat}{pre old post:LV}(hb:ax w b (pre++(old++post))){T T2 e:TypeId}(ty:TypeId)(hu:Tryz.prog.underlying T=some (.slice e))(hs:(Tryz.prog.info? e).map (·.size)=some 1){off:Nat}(hoff:off=pre.length){a:Addr}(cs:LV)(hn:cs.length=Nat.min sl dl)(hl:cs.length=old.length)(hcn:cs.length=n)
  (hsrc:∀ j v,cs[j]?=some v→w.cell? (a.add j)=some v)(h1:∀ v∈cs,v.oneCell'=true):
  (Builtin.copy_ #[T,T2] ty #[.slice (some ⟨b,off,none⟩) dl dc,.slice (some a) sl sc]).run Tryz.prog w=.ok (.int .i64 n) (w.setCells b off cs):=by
 subst hoff hcn
 refine run_copy_cells w T T2 ty e b pre.length dl dc a sl sc cs hu hs hn hsrc (fun j hj=>?_) (fun j hj=>hb.free _ (by simp;omega)) h1
 have:(pre++(old++post))[pre.length+j]?=some (old[j]'(by omega)):=by
  rw[List.getElem?_append_right (by omega),Nat.add_sub_cancel_left,List.getElem?_append_left (by omega),gG (by omega)]
 rw[hb.cell _ _ this]
 rfl
theorem lE (w:World){ops:Array Oper}{rest:List Oper}{o:Oper}{a:Act}{Q:Exit→Act→World→Prop}(hgd:o.guard=none)(d s:Operand)(t t':TypeId)
  (ho:o.op=.call { callee:=.builtin .copy,args:=#[d,s],argTypes:=#[t,t'] })(v u:Value)(hd:a.eval d=v)(hs:a.eval s=u){v':Value}{w':World}
  (hr:∀ ty,(Builtin.copy_ #[t,t'] ty #[v,u]).run Tryz.prog w=.ok v' w')(h:wpList Tryz.prog ops Q rest (a.put o.dst v') w'):wpList Tryz.prog ops Q (o::rest) a w:=by
 refine wpList_plain hgd fun K hK=>?_
 unfold Oper.wp execOp
 simp only[ho,resolve,invoke,builtin,Sem.run_bind,Sem.run_pure,Result.andThen_ok,List.map_toArray,List.map_cons,List.map_nil,hd,hs,hr]
 exact hK _ _ h
theorem kx {ops:Array Oper}{o:Oper}{a:Act}{w:World}{K:Act→World→Prop}{Q:Exit→Act→World→Prop}{E:Prop}(hgd:o.guard=none)(d s:Operand)(t t':TypeId)
  (ho:o.op=.call { callee:=.builtin .copy,args:=#[d,s],argTypes:=#[t,t'] })(v u:Value)(hd:a.eval d=v)(hs:a.eval s=u){v':Value}{w':World}
  (hr:∀ ty,(Builtin.copy_ #[t,t'] ty #[v,u]).run Tryz.prog w=.ok v' w')(h:K (a.put o.dst v') w'):if Region.wanted o (yielded ops a.tmps)=true then Oper.wp Tryz.prog o a w K Q else E:=by
 have hw:Region.wanted o (yielded ops a.tmps)=true:=by simp[Region.wanted,hgd]
 rw[if_pos hw]
 unfold Oper.wp execOp
 simp only[ho,resolve,invoke,builtin,Sem.run_bind,Sem.run_pure,Result.andThen_ok,List.map_toArray,List.map_cons,List.map_nil,hd,hs,hr]
 exact h
structure rn (w:World):Prop where
 t5:∀ i:Nat,i<64→w.cell? ⟨2,i,none⟩=some (.int .u32 (nv (Ln i)))
 tu:∀ i:Nat,i<64→w.cell? ⟨3,i / 16*4+i % 4,none⟩=some (.int .i64 (pR i))
 ts:∀ i:Nat,i<64→w.cell? ⟨4,i,none⟩=some (.int .u32 (nv (MX i)))
theorem rn.keep {w w':World}(h:rn w)(hk:∀ p:Addr,p.block<w.heap.size→w'.cell? p=w.cell? p):rn w':=
 ⟨fun i hi=>(hk _ (World.block_lt_of_cell? _ _ (h.t5 i hi))).trans (h.t5 i hi),fun i hi=>(hk _ (World.block_lt_of_cell? _ _ (h.tu i hi))).trans (h.tu i hi),fun i hi=>(hk _ (World.block_lt_of_cell? _ _ (h.ts i hi))).trans (h.ts i hi)⟩
theorem rn.below {w w':World}(h:rn w)(hb:Below w.heap.size w w'):rn w':=h.keep fun _ hp=>hb.cell hp
def JR (kv:Value)(s:S4)(rest:LV):LV:=kv::vw s.a::vw s.b::vw s.c::vw s.d::rest
theorem oH {ws:List bX}{s0:S4}{k q tu:Nat}{ya yb yc yd tk xk f s3:bX}(h:jt ws s0 k=⟨ya,yb,yc,yd⟩)(hq:k / 16=q)(ht:pR k=tu)(hk:Ln k=tk)(hx:ws.getD (Iw q k) 0=xk)(hf:f=Fb q yb yc yd)(hs:s3=ya+f+tk+xk):
  jt ws s0 (k+1)=⟨yd,yb+rl tu s3,yb,yc⟩:=by
 rw[jt,h,DN,hq,ht,hk,hx,hs,hf]
theorem JS (hb:Nat)(x0 x1 x2 x3 x4 x5 x6 x7 x8 x9 x10 x11 x12 x13 x14 x15 a b c d:bX)(kv:Value)(rest:LV)(w:World)(hG:rn w)
  (hB:ax w hb (kv::vw a::vw b::vw c::vw d::rest)):
  Calls Tryz.prog 127 #[.pointer (some ⟨hb,0,none⟩),.agg #[vw x0,vw x1,vw x2,vw x3,vw x4,vw x5,vw x6,vw x7,vw x8,vw x9,vw x10,vw x11,vw x12,vw x13,vw x14,vw x15]] w fun e w'=>e=.returned (.tuple #[]) ∧
   ax w' hb (JR kv (jt [x0,x1,x2,x3,x4,x5,x6,x7,x8,x9,x10,x11,x12,x13,x14,x15] ⟨a,b,c,d⟩ 64) rest)∧w.grownBy w' (some hb):=by
 obtain⟨W1,hW1⟩:∃ W1,w.alloc (.cells #[vw x0,vw x1,vw x2,vw x3,vw x4,vw x5,vw x6,vw x7,vw x8,vw x9,vw x10,vw x11,vw x12,vw x13,vw x14,vw x15] 189)=W1:=⟨_,rfl⟩
 have L1:Hid (Below w.heap.size w W1):=by show Below _ _ _;rw[←hW1];exact bR.alloc lr _
 obtain⟨ws,hws⟩:∃ ws,ws=[x0,x1,x2,x3,x4,x5,x6,x7,x8,x9,x10,x11,x12,x13,x14,x15]:=⟨_,rfl⟩
 have X1:Hid (∀ i:Nat,i<16→W1.cell? ⟨w.heap.size,i,none⟩=some (.int .u32 (nv (ws.getD i 0)))):=by
  show ∀ i:Nat,i<16→W1.cell? ⟨w.heap.size,i,none⟩=some (.int .u32 (nv (ws.getD i 0)))
  intro i hi
  have:=(ax.new w (ws.map vw) 189).cell i (vw (ws.getD i 0)) (by rw[hws];rw[List.getElem?_map];rw[List.getD_eq_getElem?_getD,gG (by simpa using hi)];rfl)
  rw[←hW1]
  rw[hws] at this ⊢
  exact this
 have HB:Hid (ax W1 hb (kv::vw a::vw b::vw c::vw d::rest)):=hB.below L1.out
 have b1:=HB.out.cell 1 _ rfl
 have b2:=HB.out.cell 2 _ rfl
 have b3:=HB.out.cell 3 _ rfl
 have b4:=HB.out.cell 4 _ rfl
 have HG:=ae (hG.below L1.out)
 have HWS:=ae hws
 clear hB hG hws
 unfold vw at b1 b2 b3 b4 hW1 ⊢
 go_enter Tryz.func127,Tryz.ntmps127
 go_wp2_with fail
 clear hW1
 go_quiet (fail)
 go_wp2_with fail
 go_loopw [32,4,5,6,7,11] (fun i sa sb sc sd _ wr=>∃ (k:Nat) (ya yb yc yd:bX),k≤64∧i=.int .i64 k∧sa=.int .u32 (nv ya)∧sb=.int .u32 (nv yb)∧sc=.int .u32 (nv yc)∧sd=.int .u32 (nv yd)∧Hid (jt ws ⟨a,b,c,d⟩ k=⟨ya,yb,yc,yd⟩)∧Hid (∃ n,wr=W1.drewN n)) (fun i _ _ _ _ _ _=>64-(intOf i).toNat)
 case atStart=>exact⟨0,a,b,c,d,by omega,rfl,rfl,rfl,rfl,rfl,rfl,_,rfl⟩
 case round=>
  obtain⟨k,ya,yb,yc,yd,hk,rfl,rfl,rfl,rfl,rfl,HS,HW⟩:=hrel
  by_cases hlt:k<64
  ·have XW:∀ p v,W1.cell? p=some v→wr.cell? p=some v:=fun p v h=>by obtain⟨n,hn⟩:=HW.out;rw[hn];exact h
   have t5:=XW _ _ (HG.out.t5 k hlt)
   have tu:=XW _ _ (HG.out.tu k hlt)
   have hr:=Iy k hlt
   obtain⟨q,hq⟩:∃ q,k / 16=q:=⟨_,rfl⟩
   obtain⟨r,hr4⟩:∃ r,k % 4=r:=⟨_,rfl⟩
   rw[hq,hr4] at tu
   have e2:(k:Int) / 16=(q:Int):=by omega
   have e4:(k:Int).tmod 4=(r:Int):=by rw[Int.tmod_eq_emod_of_nonneg (by omega)];omega
   have hgl:=Lo k hlt
   rw[hq] at hgl
   obtain⟨gk,hgk⟩:∃ gk,Iw q k=gk:=⟨_,rfl⟩
   rw[hgk] at hgl
   have xg:=XW _ _ (X1.out _ hgl)
   have hgi:(gk:Int)<16:=by omega
   have hqi:(q:Int)<4:=by omega
   have hri:(r:Int)<4:=by omega
   obtain⟨tur,htu⟩:∃ t,pR k=t:=⟨_,rfl⟩
   rw[htu] at tu hr
   obtain⟨tk,htk⟩:∃ t,Ln k=t:=⟨_,rfl⟩
   rw[htk] at t5
   obtain⟨xk,hxk⟩:∃ t,ws.getD gk 0=t:=⟨_,rfl⟩
   rw[hxk] at xg
   have hq4:q<4:=by omega
   have hr44:r<4:=by omega
   have HQ:=ae hq;have HR:=ae hr4;have HTU:=ae htu;have HTK:=ae htk;have HXK:=ae hxk;have HRR:=ae hr;have HGK:=ae hgk
   clear hq hr4 htu htk hxk hr hgk XW
   rcases(show q=0∨q=1∨q=2∨q=3 by omega) with rfl | rfl | rfl | rfl
   ·obtain⟨t1,t2,t3,f,h1,h2,h3,h4,HF⟩:∃ t1 t2 t3 f:bX,bits .and .u32 (nv yb) (nv yc)=nv t1∧bits .xor .u32 (if IntKind.u32.signed=true then -1 else IntKind.u32.max) (nv yb)=nv t2∧bits .and .u32 (nv t2) (nv yd)=nv t3∧bits .or .u32 (nv t1) (nv t3)=nv f∧Hid (f=Fb 0 yb yc yd):=⟨_,_,_,_,rK _ _,wV _,rK _ _,yK _ _,rfl⟩
    have ew:IntKind.i64.wrap 0=0:=by rfl
    obtain rfl:k=gk:=HGK.out
    rw[show 0*4+r=r by omega] at tu
    obtain⟨s1,s2,s3,h5,h6,h7,HS3⟩:∃ s1 s2 s3:bX,IntKind.u32.wrap (nv ya+nv f)=nv s1∧IntKind.u32.wrap (nv s1+nv tk)=nv s2∧IntKind.u32.wrap (nv s2+nv xk)=nv s3∧Hid (s3=ya+f+tk+xk):=⟨_,_,_,eM _ _,eM _ _,eM _ _,rfl⟩
    have h8:=oT yb (rl tur s3)
    go_upto_region 14 with(fail)
    go_quiet ((go_at_call 175;exact Calls.quiet_of_same (dh s3 tur HRR.out.2 HRR.out.1 _)))
    go_wp2_with fail
    go_roundw
    case rel=>exact⟨k+1,yd,yb+rl tur s3,yb,yc,by omega,by go_num,rfl,rfl,rfl,rfl,oH HS.out HQ.out HTU.out HTK.out (HGK.out ▸ HXK.out) HF.out HS3.out,fz HW.out _⟩
    case measure=>simp[intOf];omega
   ·obtain⟨t1,t2,t3,f,h1,h2,h3,h4,HF⟩:∃ t1 t2 t3 f:bX,bits .and .u32 (nv yd) (nv yb)=nv t1∧bits .xor .u32 (if IntKind.u32.signed=true then -1 else IntKind.u32.max) (nv yd)=nv t2∧bits .and .u32 (nv t2) (nv yc)=nv t3∧bits .or .u32 (nv t1) (nv t3)=nv f∧Hid (f=Fb 1 yb yc yd):=⟨_,_,_,_,rK _ _,wV _,rK _ _,yK _ _,rfl⟩
    have ew:IntKind.i64.wrap 1=1:=by rfl
    have eg:(5*(k:Int)+1) % 16=(gk:Int):=by have:(5*k+1) % 16=gk:=HGK.out;omega
    obtain⟨s1,s2,s3,h5,h6,h7,HS3⟩:∃ s1 s2 s3:bX,IntKind.u32.wrap (nv ya+nv f)=nv s1∧IntKind.u32.wrap (nv s1+nv tk)=nv s2∧IntKind.u32.wrap (nv s2+nv xk)=nv s3∧Hid (s3=ya+f+tk+xk):=⟨_,_,_,eM _ _,eM _ _,eM _ _,rfl⟩
    have h8:=oT yb (rl tur s3)
    go_upto_region 14 with(fail)
    go_quiet ((go_at_call 175;exact Calls.quiet_of_same (dh s3 tur HRR.out.2 HRR.out.1 _)))
    go_wp2_with fail
    go_roundw
    case rel=>exact⟨k+1,yd,yb+rl tur s3,yb,yc,by omega,by go_num,rfl,rfl,rfl,rfl,oH HS.out HQ.out HTU.out HTK.out (HGK.out ▸ HXK.out) HF.out HS3.out,fz HW.out _⟩
    case measure=>simp[intOf];omega
   ·obtain⟨t1,f,h1,h2,HF⟩:∃ t1 f:bX,bits .xor .u32 (nv yb) (nv yc)=nv t1∧bits .xor .u32 (nv t1) (nv yd)=nv f∧Hid (f=Fb 2 yb yc yd):=⟨_,_,wU _ _,wU _ _,rfl⟩
    have ew:IntKind.i64.wrap 2=2:=by rfl
    have eg:(3*(k:Int)+5) % 16=(gk:Int):=by have:(3*k+5) % 16=gk:=HGK.out;omega
    obtain⟨s1,s2,s3,h5,h6,h7,HS3⟩:∃ s1 s2 s3:bX,IntKind.u32.wrap (nv ya+nv f)=nv s1∧IntKind.u32.wrap (nv s1+nv tk)=nv s2∧IntKind.u32.wrap (nv s2+nv xk)=nv s3∧Hid (s3=ya+f+tk+xk):=⟨_,_,_,eM _ _,eM _ _,eM _ _,rfl⟩
    have h8:=oT yb (rl tur s3)
    go_upto_region 14 with(fail)
    go_quiet ((go_at_call 175;exact Calls.quiet_of_same (dh s3 tur HRR.out.2 HRR.out.1 _)))
    go_wp2_with fail
    go_roundw
    case rel=>exact⟨k+1,yd,yb+rl tur s3,yb,yc,by omega,by go_num,rfl,rfl,rfl,rfl,oH HS.out HQ.out HTU.out HTK.out (HGK.out ▸ HXK.out) HF.out HS3.out,fz HW.out _⟩
    case measure=>simp[intOf];omega
   ·obtain⟨t1,t2,f,h1,h2,h3,HF⟩:∃ t1 t2 f:bX,bits .xor .u32 (if IntKind.u32.signed=true then -1 else IntKind.u32.max) (nv yd)=nv t1∧bits .or .u32 (nv yb) (nv t1)=nv t2∧bits .xor .u32 (nv yc) (nv t2)=nv f∧Hid (f=Fb 3 yb yc yd):=⟨_,_,_,wV _,yK _ _,wU _ _,rfl⟩
    have ew:IntKind.i64.wrap 3=3:=by rfl
    have eg:(7*(k:Int)) % 16=(gk:Int):=by have:7*k % 16=gk:=HGK.out;omega
    obtain⟨s1,s2,s3,h5,h6,h7,HS3⟩:∃ s1 s2 s3:bX,IntKind.u32.wrap (nv ya+nv f)=nv s1∧IntKind.u32.wrap (nv s1+nv tk)=nv s2∧IntKind.u32.wrap (nv s2+nv xk)=nv s3∧Hid (s3=ya+f+tk+xk):=⟨_,_,_,eM _ _,eM _ _,eM _ _,rfl⟩
    have h8:=oT yb (rl tur s3)
    go_upto_region 14 with(fail)
    go_quiet ((go_at_call 175;exact Calls.quiet_of_same (dh s3 tur HRR.out.2 HRR.out.1 _)))
    go_wp2_with fail
    go_roundw
    case rel=>exact⟨k+1,yd,yb+rl tur s3,yb,yc,by omega,by go_num,rfl,rfl,rfl,rfl,oH HS.out HQ.out HTU.out HTK.out (HGK.out ▸ HXK.out) HF.out HS3.out,fz HW.out _⟩
    case measure=>simp[intOf];omega
  ·obtain rfl:k=64:=by omega
   have HB2:Hid (ax wr hb (kv::vw a::vw b::vw c::vw d::rest)):=by obtain⟨n,hn⟩:=HW.out;rw[hn];exact HB.out.drewN n
   have hcp:∀ ty,(Builtin.copy_ #[152,152] ty #[.slice (some ⟨hb,1,none⟩) 8 8,.slice (some ⟨wr.heap.size,0,none⟩) 4 4]).run Tryz.prog (wr.alloc (.cells #[.int .u32 (nv ya),.int .u32 (nv yb),.int .u32 (nv yc),.int .u32 (nv yd)] 146))=.ok (.int .i64 (4:Nat)) ((wr.alloc (.cells #[.int .u32 (nv ya),.int .u32 (nv yb),.int .u32 (nv yc),.int .u32 (nv yd)] 146)).setCells hb 1 [vw ya,vw yb,vw yc,vw yd]):=fun ty=>
    iA (pre:=[kv]) (old:=[vw a,vw b,vw c,vw d]) (post:=rest) (HB2.out.alloc _) ty Tryz.underlying152 (by kernel_rfl) rfl [vw ya,vw yb,vw yc,vw yd] rfl rfl rfl (fun j v hj=>by
     rw[tV]
     exact(ax.new wr [vw ya,vw yb,vw yc,vw yd] 146).cell j v hj) (by intro v hv;simp[vw] at hv;rcases hv with rfl | rfl | rfl | rfl<;>rfl)
   go_wp2_with (refine lE _ rfl _ _ 152 152 rfl _ _ rfl rfl hcp ?_)
   go_end0
   refine⟨rfl,?_,?_⟩
   ·rw[←HWS.out,HS.out]
    exact ax.setN rest [vw ya,vw yb,vw yc,vw yd] [vw a,vw b,vw c,vw d] [kv] _ rfl (HB2.out.alloc _)
   ·exact dX _ _ _ _ (kb (by obtain⟨n,hn⟩:=HW.out;rw[hn];exact bz (cJ (World.grownBy.refl w _) L1.out) n) _)
def GV (kv:Value)(s:S5)(rest:LV):LV:=kv::vw s.a::vw s.b::vw s.c::vw s.d::vw s.e::rest
def jf (n:Nat)(l:List bX):LV:=l.map vw++List.replicate (n-l.length) (vw 0)
theorem jU {n:Nat}{l:List bX}(h:l.length≤n):(jf n l).length=n:=by simp[jf];omega
theorem tW (n:Nat){l:List bX}{i:Nat}(h:i<l.length):(jf n l)[i]?=some (vw (l.getD i 0)):=by
 unfold jf
 rw[List.getElem?_append_left (by simpa using h),List.getElem?_map,gG h,List.getD_eq_getElem?_getD,gG h]
 rfl
theorem tX {n:Nat}{l:List bX}(h:l.length<n):(jf n l)[l.length]?=some (vw 0):=by
 unfold jf
 rw[List.getElem?_append_right (by simp),List.length_map,Nat.sub_self,List.getElem?_replicate,if_pos (by omega)]
theorem tY {n:Nat}{l:List bX}(h:l.length<n)(x:bX):(jf n l).set l.length (vw x)=jf n (l++[x]):=by
 unfold jf
 rw[List.set_append_right _ _ (by simp),List.length_map,Nat.sub_self,show n-l.length=(n-(l++[x]).length)+1 by simp;omega,List.replicate_succ]
 simp
theorem cg {n g:Nat}{a:World}:∀ (cs:LV)(o:Nat){w:World},Below n a w→n≤g→Below n a (w.setCells g o cs)
 | [],_,_,h,_=>h
 | c::r,o,_,h,hg=>cg r (o+1) (h.setCell (p:=⟨g,o,none⟩) hg c) hg
theorem wn {w W1:World}{hb N:Nat}{T:TypeId}{Z:Array Value}{ws:List bX}{hc:LV}(hZ:Z=(List.replicate N (vw 0)).toArray)(hN:16≤N)(L1:Below w.heap.size w W1)(S1:W1.heap.size=w.heap.size+1)(hw:ws.length=16)(X1:ax W1 w.heap.size (ws.map vw))(HB:ax W1 hb hc)(hl:hb<w.heap.size):
  ∃ W2,(∀ ty,(Builtin.copy_ #[152,152] ty #[.slice (some ⟨w.heap.size+1,0,none⟩) N N,.slice (some ⟨w.heap.size,0,none⟩) 16 16]).run Tryz.prog ((W1.alloc (.cells Z T)).drew)=.ok (.int .i64 (16:Nat)) W2)∧Hid (ax W2 hb hc)∧Hid (ax W2 (w.heap.size+1) (jf N ws))∧Hid (Below w.heap.size w W2):=by
 subst hZ
 have e16:(ws.map vw).length=16:=by rw[List.length_map];exact hw
 have hz:ax ((W1.alloc (.cells (List.replicate N (vw 0)).toArray T)).drew) (w.heap.size+1) ([]++(List.replicate 16 (vw 0)++List.replicate (N-16) (vw 0))):=by
  rw[←S1,List.nil_append,List.replicate_append_replicate,show 16+(N-16)=N by omega]
  exact(ax.new W1 (List.replicate N (vw 0)) T).drew
 refine⟨((W1.alloc (.cells (List.replicate N (vw 0)).toArray T)).drew).setCells (w.heap.size+1) 0 (ws.map vw),fun ty=>iA hz ty Tryz.underlying152 (by kernel_rfl) rfl (ws.map vw) (by rw[e16];exact(Nat.min_eq_left hN).symm) (by rw[e16];simp) e16 (fun j v hj=>by rw[tV];exact((X1.alloc _).drew).cell j v hj) (fun v hv=>by obtain⟨x,_,rfl⟩:=List.mem_map.1 hv;rfl),?_,?_,?_⟩
 ·exact ax.belowN (wr:=(W1.alloc (.cells (List.replicate N (vw 0)).toArray T)).drew) ((HB.alloc _).drew) (n:=w.heap.size+1) (cg (ws.map vw) 0 bR lr) (by omega)
 ·have:=ax.setN (List.replicate (N-16) (vw 0)) (ws.map vw) (List.replicate 16 (vw 0)) [] _ (by rw[e16];simp) hz
  simpa [Hid,jf,hw] using this
 ·exact cg (ws.map vw) 0 (an (L1.alloc L1.size _) 1) (by omega)
theorem gR {wr:World}{b k m:Nat}{v u:Value}(h:wr.cell? ⟨b,m,none⟩=some u)(hne:¬ k=m):((wr.setCell ⟨b,k,none⟩ v).drew).cell? ⟨b,m,none⟩=some u:=by
 show(wr.setCell ⟨b,k,none⟩ v).cell? ⟨b,m,none⟩=some u
 rw[World.cell?_setCell_other _ _ _ _ (by intro h;injection h with _ h;exact hne h)]
 exact h
theorem gT {wr:World}{b k:Nat}{l:List bX}{N:Nat}(h:ax wr b (jf N l))(hl:l.length=k)(q:Nat)(qi NI:Int)(hqi:qi=q)(hNI:NI=N)(hq:0<q)(hq2:q≤k)(hkN:k≤N)(hkM:k≤1000):
  ∃ m:Nat,(k:Int)-qi=(m:Int)∧IntKind.i64.wrap (m:Int)=(m:Int)∧(m:Int)<NI∧¬ k=m∧¬ m=k∧∃ x,Hid (l.getD (k-q) 0=x)∧wr.cell? ⟨b,m,none⟩=some (vw x):=by
 have e:(k:Int)-qi=((k-q:Nat):Int):=by omega
 refine⟨k-q,e,?_,by omega,by omega,by omega,_,rfl,?_⟩
 ·exact IntWalk.i64_in _ (by omega)
 ·exact h.cell _ _ (tW N (by omega))
theorem lZ {ls:List bX}{s0:S5}{k q:Nat}{ya yb yc yd ye f x s:bX}(h:kj ls s0 k=⟨ya,yb,yc,yd,ye⟩)(hq:k / 20=q)(hx:ls.getD k 0=x)(hf:f=vt q yb yc yd)(hs:s=rl 5 ya+f+ye+mq q+x):
  kj ls s0 (k+1)=⟨s,ya,rl 30 yb,yc,yd⟩:=by
 rw[kj,h,yL,hq,hx,hs,hf]
theorem GW (hb:Nat)(x0 x1 x2 x3 x4 x5 x6 x7 x8 x9 x10 x11 x12 x13 x14 x15 a b c d e0:bX)(kv:Value)(rest:LV)(w:World)
  (hB:ax w hb (kv::vw a::vw b::vw c::vw d::vw e0::rest)):
  Calls Tryz.prog 128 #[.pointer (some ⟨hb,0,none⟩),.agg #[vw x0,vw x1,vw x2,vw x3,vw x4,vw x5,vw x6,vw x7,vw x8,vw x9,vw x10,vw x11,vw x12,vw x13,vw x14,vw x15]] w fun e w'=>e=.returned (.tuple #[]) ∧
   ax w' hb (GV kv (kj (pS [x0,x1,x2,x3,x4,x5,x6,x7,x8,x9,x10,x11,x12,x13,x14,x15] 64) ⟨a,b,c,d,e0⟩ 80) rest)∧w.grownBy w' (some hb):=by
 obtain⟨ws,hws⟩:∃ ws,ws=[x0,x1,x2,x3,x4,x5,x6,x7,x8,x9,x10,x11,x12,x13,x14,x15]:=⟨_,rfl⟩
 have hwl:ws.length=16:=by rw[hws];rfl
 obtain⟨W1,hW1⟩:∃ W1,w.alloc (.cells #[vw x0,vw x1,vw x2,vw x3,vw x4,vw x5,vw x6,vw x7,vw x8,vw x9,vw x10,vw x11,vw x12,vw x13,vw x14,vw x15] 189)=W1:=⟨_,rfl⟩
 have L1:Hid (Below w.heap.size w W1):=by show Below _ _ _;rw[←hW1];exact bR.alloc lr _
 have X1:Hid (ax W1 w.heap.size (ws.map vw)):=by show ax _ _ _;rw[←hW1,hws];exact ax.new w _ _
 have S1:W1.heap.size=w.heap.size+1:=by rw[←hW1];simp
 have HBL:Hid (hb<w.heap.size):=hB.sz
 have HB:=ae (hB.below L1.out)
 have HWS:=ae hws
 have HWL:=ae hwl
 clear hB hws hwl
 unfold vw at hW1 ⊢
 go_enter Tryz.func128,Tryz.ntmps128
 go_wp2_with fail
 obtain⟨W2,hcp,HB2,X2,L2⟩:=wn (Z:=Tryz.zeroCells250) (T:=250) (N:=80) (by kernel_rfl) (by decide) L1.out S1 HWL.out X1.out HB.out HBL.out
 clear S1
 go_region_law (refine kx rfl (.tmp 15) (.tmp 16) 152 152 rfl _ _ rfl rfl hcp ?_)
 clear hcp
 go_wp2_with fail
 go_loopw [5] (fun i wr=>∃ (k:Nat) (l:List bX),16≤k∧k≤80∧i=.int .i64 k∧Hid (l.length=k∧∃ n,k=16+n∧l=pS ws n)∧Hid (ax wr (w.heap.size+1) (jf 80 l))∧Hid (ax wr hb (kv::vw a::vw b::vw c::vw d::vw e0::rest))∧Hid (Below w.heap.size w wr)) (fun i _=>80-(intOf i).toNat)
 case atStart=>exact⟨16,ws,by omega,by omega,rfl,⟨HWL.out,0,rfl,rfl⟩,X2,HB2,L2⟩
 case round=>
  obtain⟨k,l,hk16,hk,rfl,HL,HX,HH,HBel⟩:=hrel
  by_cases hlt:k<80
  ·obtain⟨m3,e3,i3,n3,ne3,nf3,z3,hz3,c3⟩:=gT HX.out HL.out.1 3 3 80 rfl rfl (by omega) (by omega) hk (by omega)
   obtain⟨m8,e8,i8,n8,ne8,nf8,z8,hz8,c8⟩:=gT HX.out HL.out.1 8 8 80 rfl rfl (by omega) (by omega) hk (by omega)
   obtain⟨m14,e14,i14,n14,ne14,nf14,z14,hz14,c14⟩:=gT HX.out HL.out.1 14 14 80 rfl rfl (by omega) (by omega) hk (by omega)
   obtain⟨m16,e16,i16,n16,ne16,nf16,z16,hz16,c16⟩:=gT HX.out HL.out.1 16 16 80 rfl rfl (by omega) (by omega) hk (by omega)
   have hki:(k:Int)<80:=by omega
   have ck:=HX.out.cell k _ (by have:=tX (n:=80) (l:=l) (by rw[HL.out.1];exact hlt);rwa [HL.out.1] at this)
   have fk:=HX.out.free k (by rw[jU (by rw[HL.out.1];omega)];exact hlt)
   obtain⟨t1,h1,H1⟩:=gd z3 z8
   obtain⟨t2,h2,H2⟩:=gd t1 z14
   obtain⟨t3,h3,H3⟩:=gd t2 z16
   have HT:Hid (rl 1 t3=Ix l k):=by show _=_;unfold Ix;rw[H3.out,H2.out,H1.out,hz3.out,hz8.out,hz14.out,hz16.out]
   have HX2:Hid (ax (wr.setCell ⟨w.heap.size+1,k,none⟩ (vw (rl 1 t3))) (w.heap.size+1) (jf 80 (l++[rl 1 t3]))):=by
    have:=HX.out.set k (by rw[jU (by rw[HL.out.1];omega)];exact hlt) (vw (rl 1 t3))
    have e:=tY (n:=80) (l:=l) (by rw[HL.out.1];exact hlt) (rl 1 t3)
    rw[HL.out.1] at e
    rw[e] at this
    exact this
   have HH2:Hid (ax (wr.setCell ⟨w.heap.size+1,k,none⟩ (vw (rl 1 t3))) hb (kv::vw a::vw b::vw c::vw d::vw e0::rest)):=HH.out.far (by have:=HBL.out;omega) _
   have HB5:Hid (Below w.heap.size w (wr.setCell ⟨w.heap.size+1,k,none⟩ (vw (rl 1 t3)))):=ak HBel.out (by omega) _
   have HN:Hid ((l++[rl 1 t3]).length=k+1∧∃ n,k+1=16+n∧l++[rl 1 t3]=pS ws n):=by
    obtain⟨h1,n,h2,h3⟩:=HL.out
    refine⟨by rw[List.length_append,h1];rfl,n+1,by omega,?_⟩
    rw[pS,←h3,HT.out,h2]
   unfold vw at c3 c8 c14 c16 ck HX2 HH2 HB5
   have F3:=ae (gR (v:=.int .u32 (nv (rl 1 t3))) c3 ne3)
   have F8:=ae (gR (v:=.int .u32 (nv (rl 1 t3))) c8 ne8)
   have F14:=ae (gR (v:=.int .u32 (nv (rl 1 t3))) c14 ne14)
   have F16:=ae (gR (v:=.int .u32 (nv (rl 1 t3))) c16 ne16)
   go_wp2_with fail
   go_region_held3 (fun w'=>w'.cell? ⟨w.heap.size+1,m3,none⟩=some (.int .u32 (nv z3))∧w'.cell? ⟨w.heap.size+1,m8,none⟩=some (.int .u32 (nv z8))∧w'.cell? ⟨w.heap.size+1,m14,none⟩=some (.int .u32 (nv z14))∧w'.cell? ⟨w.heap.size+1,m16,none⟩=some (.int .u32 (nv z16)))
    (first | exact⟨c3,c8,c14,c16⟩ | exact⟨F3.out,F8.out,F14.out,F16.out⟩ | go_keep)
    ((go_at_call 175;refine(dh t3 1 (by decide) (by decide) _).mono ?_;rintro e w' ⟨rfl,rfl⟩))
   all_goals go_wp2_with fail
   all_goals go_roundw
   case rel=>exact⟨k+1,_,by omega,by omega,by go_num,HN,ae HX2.out.drew,ae HH2.out.drew,ae (an HB5.out 1)⟩
   case measure=>simp[intOf];omega
  ·have HK8:Hid (k=80):=by show _=_;omega
   obtain⟨W3,hW3⟩:∃ W3,wr=W3:=⟨_,rfl⟩
   have HLS:Hid (l=pS ws 64):=by
    obtain⟨_,n,h2,h3⟩:=HL.out
    have:n=64:=by have:=HK8.out;omega
    show _=_
    rw[h3,this]
   have LL:Hid (l.length=80):=HL.out.1.trans HK8.out
   have b1:=HH.out.cell 1 _ rfl
   have b2:=HH.out.cell 2 _ rfl
   have b3:=HH.out.cell 3 _ rfl
   have b4:=HH.out.cell 4 _ rfl
   have b5:=HH.out.cell 5 _ rfl
   unfold vw at b1 b2 b3 b4 b5
   rw[hW3] at b1 b2 b3 b4 b5 HX HH HBel ⊢
   clear hW3 HL X2 HB2 L2 HWL X1 HB
   go_wp2_with fail
   go_quiet (fail)
   go_wp2_with fail
   clear b1 b2 b3 b4 b5
   go_loopw [69,6,7,8,9,10] (fun i sa sb sc sd se wr=>∃ (k:Nat) (ya yb yc yd ye:bX),k≤80∧i=.int .i64 k∧sa=.int .u32 (nv ya)∧sb=.int .u32 (nv yb)∧sc=.int .u32 (nv yc)∧sd=.int .u32 (nv yd)∧se=.int .u32 (nv ye)∧Hid (kj l ⟨a,b,c,d,e0⟩ k=⟨ya,yb,yc,yd,ye⟩)∧Hid (∃ n,wr=W3.drewN n)) (fun i _ _ _ _ _ _=>80-(intOf i).toNat)
   case atStart=>exact⟨0,a,b,c,d,e0,by omega,rfl,rfl,rfl,rfl,rfl,rfl,rfl,_,rfl⟩
   case round=>
    obtain⟨k,ya,yb,yc,yd,ye,hk,rfl,rfl,rfl,rfl,rfl,rfl,HS,HW⟩:=hrel
    by_cases hlt:k<80
    ·obtain⟨xk,hxk⟩:∃ t,l.getD k 0=t:=⟨_,rfl⟩
     have xg:wr.cell? ⟨w.heap.size+1,k,none⟩=some (vw xk):=by obtain⟨n,hn⟩:=HW.out;rw[hn,←hxk];exact HX.out.cell k _ (tW 80 (by rw[LL.out];exact hlt))
     unfold vw at xg
     obtain⟨q,hq⟩:∃ q,k / 20=q:=⟨_,rfl⟩
     have e2:(k:Int) / 20=(q:Int):=by omega
     have hki:(k:Int)<80:=by omega
     have HQ:=ae hq;have HXK:=ae hxk
     have hq4:q<4:=by omega
     clear hq hxk
     rcases(show q=0∨q=1∨q=2∨q=3 by omega) with rfl | rfl | rfl | rfl
     ·obtain⟨t1,h1,H1⟩:=mp yb yc
      obtain⟨t2,h2,H2⟩:=Mv yb
      obtain⟨t3,h3,H3⟩:=mp t2 yd
      obtain⟨f,h4,H4⟩:=MV t1 t3
      have HF:Hid (f=vt 0 yb yc yd):=by show _=_;rw[H4.out,H3.out,H2.out,H1.out];rfl
      obtain⟨s1,g1,_,S1⟩:=gn (rl 5 ya) f
      obtain⟨s2,g2,_,S2⟩:=gn s1 ye
      obtain⟨s3,g3,_,S3⟩:=gn s2 (mq 0)
      have g3':IntKind.u32.wrap (nv s2+1518500249)=nv s3:=g3
      obtain⟨s4,g4,_,S4⟩:=gn s3 xk
      have HS4:Hid (s4=rl 5 ya+f+ye+mq 0+xk):=by show _=_;rw[S4.out,S3.out,S2.out,S1.out]
      clear g3
      go_upto_region 20 with(fail)
      go_quiet ((go_at_call 175;exact Calls.quiet_of_same (dh ya 5 (by decide) (by decide) _)))
      go_wp2_with fail
      refine(dh yb 30 (by decide) (by decide) _).mono ?_;rintro e w' ⟨rfl,rfl⟩
      go_wp2_with fail
      go_roundw
      case rel=>exact⟨k+1,s4,ya,rl 30 yb,yc,yd,by omega,by go_num,rfl,rfl,rfl,rfl,rfl,lZ HS.out HQ.out HXK.out HF.out HS4.out,fz HW.out _⟩
      case measure=>simp[intOf];omega
     ·obtain⟨t1,h1,H1⟩:=gd yb yc
      obtain⟨f,h2,H2⟩:=gd t1 yd
      have HF:Hid (f=vt 1 yb yc yd):=by show _=_;rw[H2.out,H1.out];rfl
      obtain⟨s1,g1,_,S1⟩:=gn (rl 5 ya) f
      obtain⟨s2,g2,_,S2⟩:=gn s1 ye
      obtain⟨s3,g3,_,S3⟩:=gn s2 (mq 1)
      have g3':IntKind.u32.wrap (nv s2+1859775393)=nv s3:=g3
      obtain⟨s4,g4,_,S4⟩:=gn s3 xk
      have HS4:Hid (s4=rl 5 ya+f+ye+mq 1+xk):=by show _=_;rw[S4.out,S3.out,S2.out,S1.out]
      clear g3
      go_upto_region 20 with(fail)
      go_quiet ((go_at_call 175;exact Calls.quiet_of_same (dh ya 5 (by decide) (by decide) _)))
      go_wp2_with fail
      refine(dh yb 30 (by decide) (by decide) _).mono ?_;rintro e w' ⟨rfl,rfl⟩
      go_wp2_with fail
      go_roundw
      case rel=>exact⟨k+1,s4,ya,rl 30 yb,yc,yd,by omega,by go_num,rfl,rfl,rfl,rfl,rfl,lZ HS.out HQ.out HXK.out HF.out HS4.out,fz HW.out _⟩
      case measure=>simp[intOf];omega
     ·obtain⟨t1,h1,H1⟩:=mp yb yc
      obtain⟨t2,h2,H2⟩:=mp yb yd
      obtain⟨t3,h3,H3⟩:=MV t1 t2
      obtain⟨t4,h4,H4⟩:=mp yc yd
      obtain⟨f,h5,H5⟩:=MV t3 t4
      have HF:Hid (f=vt 2 yb yc yd):=by show _=_;rw[H5.out,H4.out,H3.out,H2.out,H1.out];rfl
      obtain⟨s1,g1,_,S1⟩:=gn (rl 5 ya) f
      obtain⟨s2,g2,_,S2⟩:=gn s1 ye
      obtain⟨s3,g3,_,S3⟩:=gn s2 (mq 2)
      have g3':IntKind.u32.wrap (nv s2+2400959708)=nv s3:=g3
      obtain⟨s4,g4,_,S4⟩:=gn s3 xk
      have HS4:Hid (s4=rl 5 ya+f+ye+mq 2+xk):=by show _=_;rw[S4.out,S3.out,S2.out,S1.out]
      clear g3
      go_upto_region 20 with(fail)
      go_quiet ((go_at_call 175;exact Calls.quiet_of_same (dh ya 5 (by decide) (by decide) _)))
      go_wp2_with fail
      refine(dh yb 30 (by decide) (by decide) _).mono ?_;rintro e w' ⟨rfl,rfl⟩
      go_wp2_with fail
      go_roundw
      case rel=>exact⟨k+1,s4,ya,rl 30 yb,yc,yd,by omega,by go_num,rfl,rfl,rfl,rfl,rfl,lZ HS.out HQ.out HXK.out HF.out HS4.out,fz HW.out _⟩
      case measure=>simp[intOf];omega
     ·obtain⟨t1,h1,H1⟩:=gd yb yc
      obtain⟨f,h2,H2⟩:=gd t1 yd
      have HF:Hid (f=vt 3 yb yc yd):=by show _=_;rw[H2.out,H1.out];rfl
      obtain⟨s1,g1,_,S1⟩:=gn (rl 5 ya) f
      obtain⟨s2,g2,_,S2⟩:=gn s1 ye
      obtain⟨s3,g3,_,S3⟩:=gn s2 (mq 3)
      have g3':IntKind.u32.wrap (nv s2+3395469782)=nv s3:=g3
      obtain⟨s4,g4,_,S4⟩:=gn s3 xk
      have HS4:Hid (s4=rl 5 ya+f+ye+mq 3+xk):=by show _=_;rw[S4.out,S3.out,S2.out,S1.out]
      clear g3
      go_upto_region 20 with(fail)
      go_quiet ((go_at_call 175;exact Calls.quiet_of_same (dh ya 5 (by decide) (by decide) _)))
      go_wp2_with fail
      refine(dh yb 30 (by decide) (by decide) _).mono ?_;rintro e w' ⟨rfl,rfl⟩
      go_wp2_with fail
      go_roundw
      case rel=>exact⟨k+1,s4,ya,rl 30 yb,yc,yd,by omega,by go_num,rfl,rfl,rfl,rfl,rfl,lZ HS.out HQ.out HXK.out HF.out HS4.out,fz HW.out _⟩
      case measure=>simp[intOf];omega
    ·obtain rfl:k=80:=by omega
     have HH3:Hid (ax wr hb (kv::vw a::vw b::vw c::vw d::vw e0::rest)):=by obtain⟨n,hn⟩:=HW.out;rw[hn];exact HH.out.drewN n
     have hcp:∀ ty,(Builtin.copy_ #[152,152] ty #[.slice (some ⟨hb,1,none⟩) 8 8,.slice (some ⟨wr.heap.size,0,none⟩) 5 5]).run Tryz.prog (wr.alloc (.cells #[.int .u32 (nv ya),.int .u32 (nv yb),.int .u32 (nv yc),.int .u32 (nv yd),.int .u32 (nv ye)] 146))=.ok (.int .i64 (5:Nat)) ((wr.alloc (.cells #[.int .u32 (nv ya),.int .u32 (nv yb),.int .u32 (nv yc),.int .u32 (nv yd),.int .u32 (nv ye)] 146)).setCells hb 1 [vw ya,vw yb,vw yc,vw yd,vw ye]):=fun ty=>
      iA (pre:=[kv]) (old:=[vw a,vw b,vw c,vw d,vw e0]) (post:=rest) (HH3.out.alloc _) ty Tryz.underlying152 (by kernel_rfl) rfl [vw ya,vw yb,vw yc,vw yd,vw ye] rfl rfl rfl (fun j v hj=>by
       rw[tV]
       exact(ax.new wr [vw ya,vw yb,vw yc,vw yd,vw ye] 146).cell j v hj) (by intro v hv;simp[vw] at hv;rcases hv with rfl | rfl | rfl | rfl | rfl<;>rfl)
     go_wp2_with (refine lE _ rfl _ _ 152 152 rfl _ _ rfl rfl hcp ?_)
     go_end0
     refine⟨rfl,?_,?_⟩
     ·rw[←HWS.out,←HLS.out,HS.out]
      exact ax.setN rest [vw ya,vw yb,vw yc,vw yd,vw ye] [vw a,vw b,vw c,vw d,vw e0] [kv] _ rfl (HH3.out.alloc _)
     ·exact dX _ _ _ _ (kb (by obtain⟨n,hn⟩:=HW.out;rw[hn];exact bz (cJ (World.grownBy.refl w _) HBel.out) n) _)
def JT (kv:Value)(s:S8)(rest:LV):LV:=kv::vw s.a::vw s.b::vw s.c::vw s.d::vw s.e::vw s.f::vw s.g::vw s.h::rest
theorem pE {f:FuncId}{args:Array Value}{w:World}{n m:Nat}{v:Value}(h:Calls Tryz.prog f args (w.drewN (n+m)) fun e w'=>e=.returned v∧w'=w.drewN (n+m)):
  Calls Tryz.prog f args (w.drewN (n+m)) fun e w''=>e=.returned v∧∃ k,w''=(w.drewN n).drewN k:=h.mono fun _ _ ⟨he,hm⟩=>⟨he,m,hm.trans (World.drewN_drewN _ _ _).symm⟩
theorem ns {f:FuncId}{args:Array Value}{w:World}{n m:Nat}{v:Value}(h:Calls Tryz.prog f args (w.drewN (n+m)) fun e w'=>e=.returned v∧w'=w.drewN (n+m)):
  Calls Tryz.prog f args (w.drewN (n+m)) fun e w''=>e=.returned v∧∃ k,w''=w.drewN (n+k):=h.mono fun _ _ ⟨he,hm⟩=>⟨he,m,hm⟩
theorem MJ (x:bX)(k:Nat):∃ z,nv x / 2 ^ k=nv z∧Hid (z=x >>> k):=⟨_,Iv x k,rfl⟩
theorem As (hb:Nat)(x0 x1 x2 x3 x4 x5 x6 x7 x8 x9 x10 x11 x12 x13 x14 x15 a b c d e0 f0 g0 h0:bX)(kv:Value)(rest:LV)(w:World)(hG:rn w)
  (hB:ax w hb (kv::vw a::vw b::vw c::vw d::vw e0::vw f0::vw g0::vw h0::rest)):
  Calls Tryz.prog 129 #[.pointer (some ⟨hb,0,none⟩),.agg #[vw x0,vw x1,vw x2,vw x3,vw x4,vw x5,vw x6,vw x7,vw x8,vw x9,vw x10,vw x11,vw x12,vw x13,vw x14,vw x15]] w fun e w'=>e=.returned (.tuple #[]) ∧
   ax w' hb (JT kv (oU (yM [x0,x1,x2,x3,x4,x5,x6,x7,x8,x9,x10,x11,x12,x13,x14,x15] 48) ⟨a,b,c,d,e0,f0,g0,h0⟩ 64) rest)∧w.grownBy w' (some hb):=by
 obtain⟨ws,hws⟩:∃ ws,ws=[x0,x1,x2,x3,x4,x5,x6,x7,x8,x9,x10,x11,x12,x13,x14,x15]:=⟨_,rfl⟩
 have hwl:ws.length=16:=by rw[hws];rfl
 obtain⟨W1,hW1⟩:∃ W1,w.alloc (.cells #[vw x0,vw x1,vw x2,vw x3,vw x4,vw x5,vw x6,vw x7,vw x8,vw x9,vw x10,vw x11,vw x12,vw x13,vw x14,vw x15] 189)=W1:=⟨_,rfl⟩
 have L1:Hid (Below w.heap.size w W1):=by show Below _ _ _;rw[←hW1];exact bR.alloc lr _
 have X1:Hid (ax W1 w.heap.size (ws.map vw)):=by show ax _ _ _;rw[←hW1,hws];exact ax.new w _ _
 have S1:W1.heap.size=w.heap.size+1:=by rw[←hW1];simp
 have HBL:Hid (hb<w.heap.size):=hB.sz
 have HB:=ae (hB.below L1.out)
 have HG:=ae hG
 have HWS:=ae hws
 have HWL:=ae hwl
 clear hB hws hwl hG
 unfold vw at hW1 ⊢
 go_enter Tryz.func129,Tryz.ntmps129
 go_wp2_with fail
 clear hW1
 obtain⟨W2,hcp,HB2,X2,L2⟩:=wn (Z:=(List.replicate 64 (Value.int .u32 0)).toArray) (T:=247) (N:=64) (by kernel_rfl) (by decide) L1.out S1 HWL.out X1.out HB.out HBL.out
 clear S1
 go_region_law (refine kx rfl (.tmp 20) (.tmp 21) 152 152 rfl _ _ rfl rfl hcp ?_)
 clear hcp
 go_wp2_with fail
 go_loopw [5] (fun i wr=>∃ (k:Nat) (l:List bX),16≤k∧k≤64∧i=.int .i64 k∧Hid (l.length=k∧∃ n,k=16+n∧l=yM ws n)∧Hid (ax wr (w.heap.size+1) (jf 64 l))∧Hid (ax wr hb (kv::vw a::vw b::vw c::vw d::vw e0::vw f0::vw g0::vw h0::rest))∧Hid (Below w.heap.size w wr)) (fun i _=>64-(intOf i).toNat)
 case atStart=>exact⟨16,ws,by omega,by omega,rfl,⟨HWL.out,0,rfl,rfl⟩,X2,HB2,L2⟩
 case round=>
  obtain⟨k,l,hk16,hk,rfl,HL,HX,HH,HBel⟩:=hrel
  by_cases hlt:k<64
  ·obtain⟨m15,e15,i15,n15,ne15,nf15,z15,hz15,c15⟩:=gT HX.out HL.out.1 15 15 64 rfl rfl (by omega) (by omega) hk (by omega)
   obtain⟨m2,e2,i2,n2,ne2,nf2,z2,hz2,c2⟩:=gT HX.out HL.out.1 2 2 64 rfl rfl (by omega) (by omega) hk (by omega)
   obtain⟨m7,e7,i7,n7,ne7,nf7,z7,hz7,c7⟩:=gT HX.out HL.out.1 7 7 64 rfl rfl (by omega) (by omega) hk (by omega)
   obtain⟨m16,e16,i16,n16,ne16,nf16,z16,hz16,c16⟩:=gT HX.out HL.out.1 16 16 64 rfl rfl (by omega) (by omega) hk (by omega)
   have hki:(k:Int)<64:=by omega
   have ck:=HX.out.cell k _ (by have:=tX (n:=64) (l:=l) (by rw[HL.out.1];exact hlt);rwa [HL.out.1] at this)
   have fk:=HX.out.free k (by rw[jU (by rw[HL.out.1];omega)];exact hlt)
   obtain⟨a1,h1,H1⟩:=gd (rr 7 z15) (rr 18 z15)
   obtain⟨a2,h2,H2⟩:=MJ z15 3
   obtain⟨a3,h3,H3⟩:=gd a1 a2
   obtain⟨b1,h4,H4⟩:=gd (rr 17 z2) (rr 19 z2)
   obtain⟨b2,h5,H5⟩:=MJ z2 10
   obtain⟨b3,h6,H6⟩:=gd b1 b2
   obtain⟨s1,g1,_,S1⟩:=gn z16 a3
   obtain⟨s2,g2,_,S2⟩:=gn s1 z7
   obtain⟨s3,g3,_,S3⟩:=gn s2 b3
   have h2':nv z15 / 8=nv a2:=by simpa using h2
   have h5':nv z2 / 1024=nv b2:=by simpa using h5
   have HT:Hid (s3=MY l k):=by show _=_;unfold MY Mw Mx;rw[S3.out,S2.out,S1.out,H6.out,H5.out,H4.out,H3.out,H2.out,H1.out,hz15.out,hz2.out,hz7.out,hz16.out]
   have HX2:Hid (∀ n,ax ((wr.drewN n).setCell ⟨w.heap.size+1,k,none⟩ (vw s3)) (w.heap.size+1) (jf 64 (l++[s3]))):=by
    show ∀ _,_
    intro n
    have:=(HX.out.drewN n).set k (by rw[jU (by rw[HL.out.1];omega)];exact hlt) (vw s3)
    have e:=tY (n:=64) (l:=l) (by rw[HL.out.1];exact hlt) s3
    rw[HL.out.1] at e
    rw[e] at this
    exact this
   have HH2:Hid (∀ n,ax ((wr.drewN n).setCell ⟨w.heap.size+1,k,none⟩ (vw s3)) hb (kv::vw a::vw b::vw c::vw d::vw e0::vw f0::vw g0::vw h0::rest)):=fun n=>(HH.out.drewN n).far (by have:=HBL.out;omega) _
   have HB5:Hid (∀ n,Below w.heap.size w ((wr.drewN n).setCell ⟨w.heap.size+1,k,none⟩ (vw s3))):=fun n=>ak (an HBel.out n) (by omega) _
   have HN:Hid ((l++[s3]).length=k+1∧∃ n,k+1=16+n∧l++[s3]=yM ws n):=by
    obtain⟨h1,n,h2,h3⟩:=HL.out
    refine⟨by rw[List.length_append,h1];rfl,n+1,by omega,?_⟩
    rw[yM,←h3,HT.out,h2]
   unfold vw at c15 c2 c7 c16 ck
   clear h2 h5
   go_wp2_with fail
   go_quiet (fail)
   go_wp2_with fail
   refine(aZ z15 7 (by decide) (by decide) _).mono ?_;rintro e w' ⟨rfl,rfl⟩
   go_wp2_with fail
   refine(aZ z15 18 (by decide) (by decide) _).mono ?_;rintro e w' ⟨rfl,rfl⟩
   go_wp2_with fail
   refine(aZ z2 17 (by decide) (by decide) _).mono ?_;rintro e w' ⟨rfl,rfl⟩
   go_wp2_with fail
   refine(aZ z2 19 (by decide) (by decide) _).mono ?_;rintro e w' ⟨rfl,rfl⟩
   go_wp2_with fail
   go_region_held3 (fun w'=>w'.cell? ⟨w.heap.size+1,m16,none⟩=some (.int .u32 (nv z16))∧w'.cell? ⟨w.heap.size+1,m7,none⟩=some (.int .u32 (nv z7)))
    (first | exact⟨c16,c7⟩ | exact⟨gR c16 ne16,gR c7 ne7⟩ | exact⟨gR (wr:=World.drewN wr _) c16 ne16,gR (wr:=World.drewN wr _) c7 ne7⟩ | go_keep)
    (fail)
   all_goals go_wp2_with fail
   all_goals go_roundw
   case rel=>exact⟨k+1,_,by omega,by omega,by go_num,HN,ae (HX2.out _),ae (HH2.out _),ae (HB5.out _)⟩
   case measure=>simp[intOf];omega
  ·have HK8:Hid (k=64):=by show _=_;omega
   obtain⟨W3,hW3⟩:∃ W3,wr=W3:=⟨_,rfl⟩
   have HLS:Hid (l=yM ws 48):=by
    obtain⟨_,n,h2,h3⟩:=HL.out
    have:n=48:=by have:=HK8.out;omega
    show _=_
    rw[h3,this]
   have LL:Hid (l.length=64):=HL.out.1.trans HK8.out
   have b1:=HH.out.cell 1 _ rfl
   have b2:=HH.out.cell 2 _ rfl
   have b3:=HH.out.cell 3 _ rfl
   have b4:=HH.out.cell 4 _ rfl
   have b5:=HH.out.cell 5 _ rfl
   have b6:=HH.out.cell 6 _ rfl
   have b7:=HH.out.cell 7 _ rfl
   have b8:=HH.out.cell 8 _ rfl
   unfold vw at b1 b2 b3 b4 b5 b6 b7 b8
   rw[hW3] at b1 b2 b3 b4 b5 b6 b7 b8 HX HH HBel ⊢
   clear hW3 HL X2 HB2 L2 HWL X1 HB
   go_wp2_with fail
   clear b1 b2 b3 b4 b5 b6 b7 b8
   have hS0:w.heap.size+1<W3.heap.size:=HX.out.sz
   go_loopw [70] (fun i wr=>∃ (k:Nat) (ya yb yc yd ye yf yg yh:bX),k≤64∧i=.int .i64 k∧Hid (oU l ⟨a,b,c,d,e0,f0,g0,h0⟩ k=⟨ya,yb,yc,yd,ye,yf,yg,yh⟩)∧Hid (ax wr W3.heap.size [vw ya,vw yb,vw yc,vw yd,vw ye,vw yf,vw yg,vw yh])∧Hid (ax wr (w.heap.size+1) (jf 64 l))∧Hid (ax wr hb (kv::vw a::vw b::vw c::vw d::vw e0::vw f0::vw g0::vw h0::rest))∧Hid (Below w.heap.size w wr)) (fun i _=>64-(intOf i).toNat)
   case atStart=>exact⟨0,a,b,c,d,e0,f0,g0,h0,by omega,rfl,rfl,ax.new W3 [vw a,vw b,vw c,vw d,vw e0,vw f0,vw g0,vw h0] _,HX.out.alloc _,HH.out.alloc _,HBel.out.alloc HBel.out.size _⟩
   case round=>
    obtain⟨k,ya,yb,yc,yd,ye,yf,yg,yh,hk,rfl,HS,HV,HXr,HHr,HBr⟩:=hrel
    have c0:=HV.out.cell 0 _ rfl
    have c1:=HV.out.cell 1 _ rfl
    have c2:=HV.out.cell 2 _ rfl
    have c3:=HV.out.cell 3 _ rfl
    have c4:=HV.out.cell 4 _ rfl
    have c5:=HV.out.cell 5 _ rfl
    have c6:=HV.out.cell 6 _ rfl
    have c7:=HV.out.cell 7 _ rfl
    by_cases hlt:k<64
    ·obtain⟨xk,hxk⟩:∃ t,l.getD k 0=t:=⟨_,rfl⟩
     have xg:=HXr.out.cell k _ (tW 64 (by rw[LL.out];exact hlt))
     rw[hxk] at xg
     have tg:=(HG.out.below HBr.out).ts k hlt
     obtain⟨tk,htk⟩:∃ t,MX k=t:=⟨_,rfl⟩
     rw[htk] at tg
     have hki:(k:Int)<64:=by omega
     have fz0:=HV.out.free 0 (by simp)
     have fz1:=HV.out.free 1 (by simp)
     have fz2:=HV.out.free 2 (by simp)
     have fz3:=HV.out.free 3 (by simp)
     have fz4:=HV.out.free 4 (by simp)
     have fz5:=HV.out.free 5 (by simp)
     have fz6:=HV.out.free 6 (by simp)
     have fz7:=HV.out.free 7 (by simp)
     obtain⟨p1,h1,H1⟩:=gd (rr 6 ye) (rr 11 ye)
     obtain⟨p2,h2,H2⟩:=gd p1 (rr 25 ye)
     obtain⟨p3,h3,_,H3⟩:=gn yh p2
     obtain⟨p4,h4,H4⟩:=mp ye yf
     obtain⟨p5,h5,H5⟩:=Mv ye
     obtain⟨p6,h6,H6⟩:=mp p5 yg
     obtain⟨p7,h7,H7⟩:=gd p4 p6
     obtain⟨p8,h8,_,HA8⟩:=gn p3 p7
     obtain⟨p9,h9,_,H9⟩:=gn p8 tk
     obtain⟨t1,h10,_,H10⟩:=gn p9 xk
     have HT1:Hid (t1=wW l k ⟨ya,yb,yc,yd,ye,yf,yg,yh⟩):=by show _=_;unfold wW;rw[H10.out,H9.out,HA8.out,H7.out,H6.out,H5.out,H4.out,H3.out,H2.out,H1.out,hxk,htk]
     obtain⟨q1,j1,J1⟩:=gd (rr 2 ya) (rr 13 ya)
     obtain⟨q2,j2,J2⟩:=gd q1 (rr 22 ya)
     obtain⟨q3,j3,J3⟩:=mp ya yb
     obtain⟨q4,j4,J4⟩:=mp ya yc
     obtain⟨q5,j5,J5⟩:=gd q3 q4
     obtain⟨q6,j6,J6⟩:=mp yb yc
     obtain⟨q7,j7,J7⟩:=gd q5 q6
     obtain⟨t2,_,j8,J8⟩:=gn q2 q7
     have HT2:Hid (t2=Bq ⟨ya,yb,yc,yd,ye,yf,yg,yh⟩):=by show _=_;unfold Bq;rw[J8.out,J7.out,J6.out,J5.out,J4.out,J3.out,J2.out,J1.out]
     obtain⟨na,_,j9,J9⟩:=gn t1 t2
     obtain⟨nE,_,j10,J10⟩:=gn yd t1
     have HN:Hid (oU l ⟨a,b,c,d,e0,f0,g0,h0⟩ (k+1)=⟨na,ya,yb,yc,nE,ye,yf,yg⟩):=by show _=_;rw[oU,HS.out,DP,J9.out,J10.out,HT1.out,HT2.out]
     have HVN:Hid (∀ n,ax ((wr.drewN n).setCells W3.heap.size 0 [vw na,vw ya,vw yb,vw yc,vw nE,vw ye,vw yf,vw yg]) W3.heap.size [vw na,vw ya,vw yb,vw yc,vw nE,vw ye,vw yf,vw yg]):=fun n=>by
      have:=ax.setN [] [vw na,vw ya,vw yb,vw yc,vw nE,vw ye,vw yf,vw yg] [vw ya,vw yb,vw yc,vw yd,vw ye,vw yf,vw yg,vw yh] [] (wr.drewN n) rfl (by simpa using HV.out.drewN n)
      simpa using this
     have HXN:Hid (∀ n,ax ((wr.drewN n).setCells W3.heap.size 0 [vw na,vw ya,vw yb,vw yc,vw nE,vw ye,vw yf,vw yg]) (w.heap.size+1) (jf 64 l)):=fun n=>(HXr.out.drewN n).belowN (n:=W3.heap.size) (cg [vw na,vw ya,vw yb,vw yc,vw nE,vw ye,vw yf,vw yg] 0 bR lr) hS0
     have HHN:Hid (∀ n,ax ((wr.drewN n).setCells W3.heap.size 0 [vw na,vw ya,vw yb,vw yc,vw nE,vw ye,vw yf,vw yg]) hb (kv::vw a::vw b::vw c::vw d::vw e0::vw f0::vw g0::vw h0::rest)):=fun n=>(HHr.out.drewN n).belowN (n:=W3.heap.size) (cg [vw na,vw ya,vw yb,vw yc,vw nE,vw ye,vw yf,vw yg] 0 bR lr) (by have:=HBL.out;omega)
     have HBN:Hid (∀ n,Below w.heap.size w ((wr.drewN n).setCells W3.heap.size 0 [vw na,vw ya,vw yb,vw yc,vw nE,vw ye,vw yf,vw yg])):=fun n=>cg [vw na,vw ya,vw yb,vw yc,vw nE,vw ye,vw yf,vw yg] 0 (an HBr.out n) (by omega)
     unfold vw at xg c0 c1 c2 c3 c4 c5 c6 c7
     clear hxk htk
     go_upto_region 14 with(fail)
     go_quiet (fail)
     go_upto_region 15 with(fail)
     go_quiet (first
      | (go_at_call 176;exact pE (aZ ye 6 (by decide) (by decide) _))
      | (go_at_call 176;exact ns (aZ ye 6 (by decide) (by decide) _))
      | (go_at_call 176;exact Calls.quiet_of_same (aZ ye 6 (by decide) (by decide) _))
      | (go_at_call 176;exact pE (aZ ye 11 (by decide) (by decide) _))
      | (go_at_call 176;exact ns (aZ ye 11 (by decide) (by decide) _))
      | (go_at_call 176;exact Calls.quiet_of_same (aZ ye 11 (by decide) (by decide) _))
      | (go_at_call 176;exact pE (aZ ye 25 (by decide) (by decide) _))
      | (go_at_call 176;exact ns (aZ ye 25 (by decide) (by decide) _))
      | (go_at_call 176;exact Calls.quiet_of_same (aZ ye 25 (by decide) (by decide) _)))
     go_wp2_with fail
     refine(aZ ya 2 (by decide) (by decide) _).mono ?_;rintro e w' ⟨rfl,rfl⟩
     go_wp2_with fail
     refine(aZ ya 13 (by decide) (by decide) _).mono ?_;rintro e w' ⟨rfl,rfl⟩
     go_wp2_with fail
     refine(aZ ya 22 (by decide) (by decide) _).mono ?_;rintro e w' ⟨rfl,rfl⟩
     go_wp2_with fail
     go_roundw
     case rel=>exact⟨k+1,na,ya,yb,yc,nE,ye,yf,yg,by omega,by go_num,HN,ae (HVN.out _),ae (HXN.out _),ae (HHN.out _),ae (HBN.out _)⟩
     case measure=>simp[intOf];omega
    ·have HK9:Hid (k=64):=by show _=_;omega
     have d1:=HHr.out.cell 1 _ rfl
     have d2:=HHr.out.cell 2 _ rfl
     have d3:=HHr.out.cell 3 _ rfl
     have d4:=HHr.out.cell 4 _ rfl
     have d5:=HHr.out.cell 5 _ rfl
     have d6:=HHr.out.cell 6 _ rfl
     have d7:=HHr.out.cell 7 _ rfl
     have d8:=HHr.out.cell 8 _ rfl
     have fz1:=HHr.out.free 1 (by simp)
     have fz2:=HHr.out.free 2 (by simp)
     have fz3:=HHr.out.free 3 (by simp)
     have fz4:=HHr.out.free 4 (by simp)
     have fz5:=HHr.out.free 5 (by simp)
     have fz6:=HHr.out.free 6 (by simp)
     have fz7:=HHr.out.free 7 (by simp)
     have fz8:=HHr.out.free 8 (by simp)
     unfold vw at c0 c1 c2 c3 c4 c5 c6 c7 d1 d2 d3 d4 d5 d6 d7 d8
     go_wp2_with fail
     go_end0
     refine⟨rfl,?_,?_⟩
     ·rw[←HWS.out,←HLS.out,←HK9.out,HS.out]
      exact ax.setN rest [vw ya,vw yb,vw yc,vw yd,vw ye,vw yf,vw yg,vw yh] [vw a,vw b,vw c,vw d,vw e0,vw f0,vw g0,vw h0] [kv] wr rfl HHr.out
     ·exact dX [vw ya,vw yb,vw yc,vw yd,vw ye,vw yf,vw yg,vw yh] 1 _ _ (cJ (World.grownBy.refl w _) HBr.out)
theorem wq {T E:TypeId}{sz:Nat}(hT:Tryz.prog.underlying T=some (.slice (Tryz.prog.elem T)))(hE:Tryz.prog.elem T=E)(hs:∀ w,(sizeOf E).run Tryz.prog w=.ok sz w)
  {A:OA}{n c i j:Nat}(hij:i≤j)(hj:j≤c)(w:World):(Instr.slice T (.slice A n c) (some (.int .i64 i)) (some (.int .i64 j)) none).run Tryz.prog w=.ok (.slice (if c=i then A else A.map (·.add (i*sz))) (j-i) (c-i)) w:=by
 have hb:(Instr.sliceBounds true n c (some (.int .i64 i)) (some (.int .i64 j)) none).run Tryz.prog w=.ok (i,j,c) w:=by
  simp[Instr.sliceBounds,run_sliceBound (k:=.i64) (i:=(j:Int)) (y:=c) (h0:=by omega) (h1:=by omega),run_sliceBound (k:=.i64) (i:=(i:Int)) (y:=j) (h0:=by omega) (h1:=by omega)]
 simp only[Instr.slice,Sem.run_bind,run_underlying hT,Result.andThen_ok,hb,hE,hs,Sem.run_pure]
theorem Me {T E:TypeId}{sz:Nat}(hT:Tryz.prog.underlying T=some (.slice (Tryz.prog.elem T)))(hE:Tryz.prog.elem T=E)(hs:∀ w,(sizeOf E).run Tryz.prog w=.ok sz w)
  {A:OA}{n c k:Nat}(hk:k≤n)(w:World):(Instr.slice T (.slice A n c) (some (.int .i64 k)) none none).run Tryz.prog w=.ok (.slice (if c=k then A else A.map (·.add (k*sz))) (n-k) (c-k)) w:=by
 have hb:(Instr.sliceBounds true n c (some (.int .i64 k)) none none).run Tryz.prog w=.ok (k,n,c) w:=by
  simp[Instr.sliceBounds,run_sliceBound (k:=.i64) (i:=(k:Int)) (y:=n) (h0:=by omega) (h1:=by omega)]
 simp only[Instr.slice,Sem.run_bind,run_underlying hT,Result.andThen_ok,hb,hE,hs,Sem.run_pure]
theorem Rd.cut {w:World}{A:OA}{n c i j:Nat}{xs:LV}(h:Rd w 1 A n xs)(hij:i≤j)(hj:j≤n)(hc:n≤c):Rd w 1 (if c=i then A else A.map (·.add (i*1))) (j-i) ((xs.drop i).take (j-i)):=by
 have hl:=h.1
 refine⟨by simp;omega,fun hp=>?_⟩
 obtain⟨b,off,rfl,hc2⟩:=h.2 (by omega)
 rw[if_neg (by omega)]
 refine⟨b,off+i,by simp[jq],fun k u hu=>?_⟩
 have hk:k<j-i:=by
  have:=(gS hu).1
  simp at this
  omega
 rw[List.getElem?_take_of_lt hk,List.getElem?_drop] at hu
 rw[Nat.add_assoc]
 exact hc2 _ u hu
theorem JU {x c:Nat}(k:Nat)(hc:c<2 ^ k):x*2 ^ k ||| c=x*2 ^ k+c:=by
 rw[Nat.mul_comm]
 exact(Nat.two_pow_add_eq_or_of_lt hc x).symm
end
section
open Go.ChangeShapes Go.WideShapes Go.ChangeAt Go.RowKit
theorem vl {H:Type}{enc:TypeId×Value→H}{P:Program}{w:World}{base:Nat}{sp:Nat→Bool}{held:Bool}{fuel:Nat}{t e:TypeId}{n:Nat}{cs:LV}{zs:List (LU)}{p:List MemPlace}
  (ht:P.underlying t=some (.array n e))(he:P.underlying e=some .string)(hce:P.cellsOf e=1)(hct:P.cellsOf t=n)
  (h:DataW.trod enc P w base sp held fuel t cs=some (.agg (zs.map fun z=>.lit (.string z)),p)):cs=zs.map fun z=>Value.string ⟨z.toArray⟩:=by
 cases fuel with
 | zero=>simp[DataW.trod] at h
 | succ fuel=>
  simp only[DataW.trod,ht,hce,hct,Nat.mul_one] at h
  split at h
  ·rename_i hl
   obtain⟨xs,hm,hx⟩:=Option.map_eq_some_iff.1 h
   have hxs:xs.map (·.1)=zs.map fun z=>(DataW.lit (.string z):DataW H):=by
    have:=congrArg Prod.fst hx
    simpa using this
   have hxl:xs.length=n:=by simpa using Lib.mapM_length hm
   have hzl:zs.length=n:=by
    have:=congrArg List.length hxs
    simp at this
    omega
   apply List.ext_getElem?
   intro i
   by_cases hi:i<n
   ·obtain⟨b,hb,hf⟩:=Lib.mapM_at hm i i (by simp[hi])
    obtain⟨z,hc,rfl,_⟩:=DataW.trod_string he hf
    have h1:cs[i]?=some (.string z):=by
     have:=congrArg (·[0]?) hc
     simpa [List.getElem?_take,List.getElem?_drop] using this
    have h2:(xs.map (·.1))[i]?=some (DataW.lit (.string z.data.toList):DataW H):=by simp[hb]
    rw[hxs] at h2
    simp only[List.getElem?_map,Option.map_eq_some_iff,DataW.lit.injEq,Lit.string.injEq] at h2
    obtain⟨z',hz',rfl⟩:=h2
    simp[h1,hz']
   ·rw[List.getElem?_eq_none (by omega),List.getElem?_eq_none (by simp;omega)]
  ·cases h
theorem dG {P:Program}{w:World}{n:String}{d:DataW Unit}{r:List (String×DataW Unit)}{ps:List MemPlace}(h:DataW.LaidVars P w ((n,d)::r) ps):
  (∃ g t cs fuel p,P.globalNamed n=some g∧(P.globals[g]?).map (·.type)=some t∧w.var? P n=some cs∧DataW.trod (fun _=>()) P w 0 (fun _=>true) false fuel t cs.toList=some (d,p))∧∃ q,DataW.LaidVars P w r q:=by
 obtain⟨g,t,cs,fuel,p,q,h1,h2,h3,h4,h5,_⟩:=h
 exact⟨⟨g,t,cs,fuel,p,h1,h2,h3,h4⟩,q,h5⟩
theorem jV {P:Program}{w:World}{name:String}{zs:List (LU)}{g0:Nat}{t0 e:TypeId}{n:Nat}
  (hg:P.globalNamed name=some g0)(hty:(P.globals[g0]?).map (·.type)=some t0)(ht:P.underlying t0=some (.array n e))(he:P.underlying e=some .string)(hce:P.cellsOf e=1)(hct:P.cellsOf t0=n)
  (h:∃ g t cs fuel p,P.globalNamed name=some g∧(P.globals[g]?).map (·.type)=some t∧w.var? P name=some cs∧DataW.trod (fun _=>()) P w 0 (fun _=>true) false fuel t cs.toList=some (.agg (zs.map fun z=>.lit (.string z)),p))
  (i:Nat)(z:LU)(hi:zs[i]?=some z):w.cell? ⟨g0,i,none⟩=some (.string ⟨z.toArray⟩):=by
 obtain⟨g',t',cs,fuel,p,hg',ht',hvar,hd⟩:=h
 obtain rfl:=Option.some.inj (hg.symm.trans hg')
 obtain rfl:=Option.some.inj (hty.symm.trans ht')
 have hc:=vl ht he hce hct hd
 rw[World.var?_cell hg hvar i,←Array.getElem?_toList,hc]
 simp[hi]
theorem KK {P:Program}{w:World}{name:String}{k:IntKind}{zs:List Int}{g0:Nat}{t0 e:TypeId}{n:Nat}{D:DataW Unit}(hD:D=Lib.tabData k zs)
  (hg:P.globalNamed name=some g0)(hty:(P.globals[g0]?).map (·.type)=some t0)(ht:P.underlying t0=some (.array n e))(he:P.underlying e=some (.int k))(hce:P.cellsOf e=1)(hct:P.cellsOf t0=n)
  (h:∃ g t cs fuel p,P.globalNamed name=some g∧(P.globals[g]?).map (·.type)=some t∧w.var? P name=some cs∧DataW.trod (fun _=>()) P w 0 (fun _=>true) false fuel t cs.toList=some (D,p)):Lib.TabIs P w name k zs:=by
 obtain⟨g',t',cs,fuel,p,hg',ht',hvar,hd⟩:=h
 subst hD
 obtain rfl:=Option.some.inj (hg.symm.trans hg')
 obtain rfl:=Option.some.inj (hty.symm.trans ht')
 unfold Lib.TabIs
 rw[hvar,←Lib.cells_of_tab ht he hce hct hd]
theorem AX {W:World}(h:laidMetH Tryz.prog lI W)(hsh:W.ShapedOpen Tryz.prog):Gl W:=by
 obtain⟨ps,h0,_⟩:=oL h
 obtain⟨_,q1,h1⟩:=dG h0
 obtain⟨_,q2,h2⟩:=dG h1
 obtain⟨_,q3,h3⟩:=dG h2
 obtain⟨_,q4,h4⟩:=dG h3
 obtain⟨c1,q5,h5⟩:=dG h4
 obtain⟨c2,q6,h6⟩:=dG h5
 obtain⟨c3,q7,h7⟩:=dG h6
 obtain⟨c4,q8,h8⟩:=dG h7
 obtain⟨c5,q9,h9⟩:=dG h8
 refine⟨Go.Proofs.cell_of_shapedOpen_int (zero:=#[.int .i64 0]) (t:=3) hsh (dO (by kernel_rfl)) (by kernel_rfl) rfl (by kernel_rfl) (by kernel_rfl) Tryz.underlying3,?_,?_,?_,?_,?_⟩
 ·intro i hi
  have e:=jV (zs:=[[97,108,112,104,97],[98,101,116,97],[112,114,101],[114,99],[99,118,115],[115,118,110],[103,105,116],[104,103],[112]]) (g0:=5) (t0:=256) (e:=9) (n:=9) (by kernel_rfl) (by kernel_rfl) Tryz.underlying256 Tryz.underlying9 (by kernel_rfl) (by kernel_rfl) c1
  rcases(by omega:i=0∨i=1∨i=2∨i=3∨i=4∨i=5∨i=6∨i=7∨i=8) with rfl | rfl | rfl | rfl | rfl | rfl | rfl | rfl | rfl
  all_goals exact e _ _ rfl
 ·intro i hi
  have e:=jV (zs:=[[],[60,60],[60,61],[61],[62,61],[62,62]]) (g0:=6) (t0:=260) (e:=9) (n:=6) (by kernel_rfl) (by kernel_rfl) Tryz.underlying260 Tryz.underlying9 (by kernel_rfl) (by kernel_rfl) c3
  rcases(by omega:i=0∨i=1∨i=2∨i=3∨i=4∨i=5) with rfl | rfl | rfl | rfl | rfl | rfl
  all_goals exact e _ _ rfl
 ·intro i hi
  have e:=jV (zs:=[[],[60],[60,61],[61],[62,61],[62]]) (g0:=7) (t0:=260) (e:=9) (n:=6) (by kernel_rfl) (by kernel_rfl) Tryz.underlying260 Tryz.underlying9 (by kernel_rfl) (by kernel_rfl) c4
  rcases(by omega:i=0∨i=1∨i=2∨i=3∨i=4∨i=5) with rfl | rfl | rfl | rfl | rfl | rfl
  all_goals exact e _ _ rfl
 ·intro i hi
  have e:=jV (zs:=[[97,110,100],[111,114],[105,102],[117,110,108,101,115,115],[119,105,116,104],[119,105,116,104,111,117,116]]) (g0:=9) (t0:=260) (e:=9) (n:=6) (by kernel_rfl) (by kernel_rfl) Tryz.underlying260 Tryz.underlying9 (by kernel_rfl) (by kernel_rfl) c5
  rcases(by omega:i=0∨i=1∨i=2∨i=3∨i=4∨i=5) with rfl | rfl | rfl | rfl | rfl | rfl
  all_goals exact e _ _ rfl
 ·intro i hi
  have e:=jV (zs:=[[],[60],[60,61],[61],[62,61],[62],[126]]) (g0:=1) (t0:=242) (e:=9) (n:=7) (by kernel_rfl) (by kernel_rfl) Tryz.underlying242 Tryz.underlying9 (by kernel_rfl) (by kernel_rfl) c2
  rcases(by omega:i=0∨i=1∨i=2∨i=3∨i=4∨i=5∨i=6) with rfl | rfl | rfl | rfl | rfl | rfl | rfl
  all_goals exact e _ _ rfl
theorem Ev (l:List bX)(i:Nat):(l.map nv).getD i 0=nv (l.getD i 0):=by
 rw[List.getD_eq_getElem?_getD,List.getD_eq_getElem?_getD,List.getElem?_map]
 cases l[i]?<;>rfl
theorem vm {H:Type}{enc:TypeId×Value→H}{P:Program}{w:World}{base:Nat}{sp:Nat→Bool}{held:Bool}{fuel:Nat}{t e:TypeId}{n m:Nat}{cs:LV}{ds:List (DataW H)}{p:List MemPlace}
  (ht:P.underlying t=some (.array n e))(hce:P.cellsOf e=m)(h:DataW.trod enc P w base sp held fuel t cs=some (.agg ds,p)):
  ∀ (i:Nat)(d:DataW H),i<n→ds[i]?=some d→∃ fuel' p',DataW.trod enc P w base sp held fuel' e ((cs.drop (i*m)).take m)=some (d,p'):=by
 intro i d hi hd
 cases fuel with
 | zero=>simp[DataW.trod] at h
 | succ fuel=>
  simp only[DataW.trod,ht,hce] at h
  split at h
  ·obtain⟨xs,hm,hx⟩:=Option.map_eq_some_iff.1 h
   have hxs:xs.map (·.1)=ds:=by
    have:=congrArg Prod.fst hx
    simpa using this
   obtain⟨b,hb,hf⟩:=Lib.mapM_at hm i i (by simp[hi])
   have h2:(xs.map (·.1))[i]?=some b.1:=by simp[hb]
   rw[hxs,hd] at h2
   injection h2 with h2
   subst h2
   exact⟨fuel,b.2,hf⟩
  ·cases h
theorem Dy {w : World} (h : ∃ g t cs fuel p, Tryz.prog.globalNamed "drayage/digest.turns" = some g ∧ (Tryz.prog.globals[g]?).map (·.type) = some t ∧ w.var? Tryz.prog "drayage/digest.turns" = some cs ∧ DataW.trod (fun _ => ()) Tryz.prog w 0 (fun _ => true) false fuel t cs.toList = some (Rows.laid_drayage_digest_turns, p)) (r j : Nat) (z : List Int) (x : Int) (hr : r < 4) (hj : j < 4) (hz : [[7, 12, 17, 22], [5, 9, 14, 20], [4, 11, 16, 23], [6, 10, 15, 21]][r]? = some z) (hx : z[j]? = some x) :
  w.cell? ⟨3,r*4+j,none⟩=some (.int .i64 x):=by
 obtain⟨g',t',cs,fuel,p,hg',ht',hvar,hd⟩:=h
 obtain rfl := Option.some.inj ((show Tryz.prog.globalNamed "drayage/digest.turns" = some 3 by kernel_rfl).symm.trans hg')
 obtain rfl:=Option.some.inj ((show(Tryz.prog.globals[3]?).map (·.type)=some 249 by kernel_rfl).symm.trans ht')
 obtain⟨f',p',hrow⟩:=vm (e:=248) (n:=4) (m:=4) Tryz.underlying249 (by kernel_rfl) (ds:=[[7,12,17,22],[5,9,14,20],[4,11,16,23],[6,10,15,21]].map (Lib.tabData .i64)) hd r (Lib.tabData .i64 z) hr (by rw[List.getElem?_map,hz];rfl)
 have hc:=Lib.cells_of_tab (e:=3) (n:=4) Tryz.underlying248 Tryz.underlying3 (by kernel_rfl) (by kernel_rfl) hrow
 rw [World.var?_cell (show Tryz.prog.globalNamed "drayage/digest.turns" = some 3 by kernel_rfl) hvar, ← Array.getElem?_toList]
 have h2:((cs.toList.drop (r*4)).take 4)[j]?=some (.int .i64 x):=by rw[hc,List.getElem?_map,hx];rfl
 rw[List.getElem?_take_of_lt hj,List.getElem?_drop] at h2
 exact h2
theorem KM:∀ i:Nat,i<64→∃ z,[[7,12,17,22],[5,9,14,20],[4,11,16,23],[6,10,15,21]][i / 16]?=some z∧z[i % 4]?=some ((pR i:Nat):Int):=by
 intro i hi
 have h1:i / 16=0∨i / 16=1∨i / 16=2∨i / 16=3:=by omega
 have h2:i % 4=0∨i % 4=1∨i % 4=2∨i % 4=3:=by omega
 unfold pR
 rcases h1 with h1 | h1 | h1 | h1<;>rcases h2 with h2 | h2 | h2 | h2<;>rw[h1,h2]<;>exact⟨_,rfl,rfl⟩
theorem KO : Tryz.prog.globalNamed "errors.errorType" = some 8 := by kernel_rfl
theorem Od : (Tryz.prog.cutTypes.find? (·.1 == "internal/reflectlite.rtype")).map (·.2) = some 327 := by kernel_rfl
theorem Hx:((List.range Tryz.prog.types.size).filter fun t=>Tryz.prog.rowNamed t [101,114,114,111,114])=[237]:=by kernel_rfl
theorem yj:typeHandle Tryz.prog 237=.pointer (some ⟨12,237,none⟩):=by kernel_rfl
theorem AY {W:World}(h:laidMetH Tryz.prog lI W)(hsh:W.ShapedOpen Tryz.prog):BV W:=by
 refine⟨AX h hsh,?_⟩
 have h' : laidMet Tryz.prog iB W ∧ handlesMet Tryz.prog [("errors.errorType", Rows.laid_errors_errorType)] W := h
 obtain⟨name,u,ty,e1,e2,e3,e4,e5⟩:=h'.2 _ (List.mem_singleton.2 rfl)
 have en:name=[101,114,114,111,114]:=(Option.some.inj e1).symm
 subst en
 obtain rfl:=Option.some.inj (Od.symm.trans e2)
 have hm:ty∈(List.range Tryz.prog.types.size).filter fun t=>Tryz.prog.rowNamed t [101,114,114,111,114]:=List.mem_filter.2 ⟨List.mem_range.2 e3,e4⟩
 rw[Hx] at hm
 obtain rfl:=List.mem_singleton.1 hm
 rw[yj] at e5
 simpa using World.var?_cell KO e5 0
theorem AZ {W:World}(h:laidMetH Tryz.prog lI W):rn W:=by
 obtain⟨ps,h0,_⟩:=oL h
 obtain⟨m5,q1,h1⟩:=dG h0
 obtain⟨ms,q2,h2⟩:=dG h1
 obtain⟨_,q3,h3⟩:=dG h2
 obtain⟨mt,q4,h4⟩:=dG h3
 refine⟨fun i hi=>?_,fun i hi=>?_,fun i hi=>?_⟩
 ·have ht:=KK (zs:=Oo.map nv) (k:=.u32) (by kernel_rfl) (g0:=2) (t0:=247) (e:=146) (n:=64) (by kernel_rfl) (by kernel_rfl) Tryz.underlying247 Tryz.underlying146 (by kernel_rfl) (by kernel_rfl) m5
  have:=ht.cell (g:=2) (by kernel_rfl) i (by rw[List.length_map];exact hi)
  rw[Ev] at this
  exact this
 ·obtain⟨z,h1,h2⟩:=KM i hi
  exact Dy mt (i / 16) (i % 4) z _ (by omega) (by omega) h1 h2
 ·have ht:=KK (zs:=Oq.map nv) (k:=.u32) (by kernel_rfl) (g0:=4) (t0:=247) (e:=146) (n:=64) (by kernel_rfl) (by kernel_rfl) Tryz.underlying247 Tryz.underlying146 (by kernel_rfl) (by kernel_rfl) ms
  have:=ht.cell (g:=4) (by kernel_rfl) i (by rw[List.length_map];exact hi)
  rw[Ev] at this
  exact this
end
end Go.Proofs.YtaohgmcbpafdeaaGreatDoor
