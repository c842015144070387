/- A part of the proof. -/
import Derived.Test.YtlglfpbhapmhiaaGreatDoorL08
import Derived.Test.YtlglfpbhapmhiaaGreatDoorL09
set_option maxRecDepth 100000
set_option maxHeartbeats 20000000
set_option linter.unusedVariables false
set_option linter.unusedSimpArgs false
namespace Go.Proofs.YtlglfpbhapmhiaaGreatDoor
variable{m r tl:LU}{n:Nat}
section
open Go.RowKit
def Lu:LU:=[48,49,50,51,52,53,54,55,56,57,97,98,99,100,101,102]
def Sc:BA:=⟨#[48,49,50,51,52,53,54,55,56,57,97,98,99,100,101,102]⟩
def Bh (l:LU):Bool:=l.all fun c=>Lu.contains c
def Lv (fmt:Int):Nat:=if fmt=1 then 32 else if fmt=2 then 64 else 40
def Iy (fmt:Int)(s:BA):Bool:=decide (s.size=Lv fmt)&&Bh (bl s)
theorem ot {p:UInt8->Bool}:∀ (m:LU),(∀ x∈m.dropWhile p,p x=true)->∀ x∈m,p x=true
 | [],_,x,h=>by simp at h
 | a::r,h,x,hx=>by
  cases ha:p a
  ·have:(a::r).dropWhile p=a::r:=by simp[List.dropWhile,ha]
   rw[this] at h;have:=h a (by simp);rw[ha] at this;cases this
  ·have e:(a::r).dropWhile p=r.dropWhile p:=by simp[List.dropWhile,ha]
   rw[e] at h;rcases List.mem_cons.1 hx with rfl | hx
   ·exact ha
   ·exact ot r h x hx
theorem ou {p:UInt8->Bool}:∀ (m:LU),m.dropWhile p=[]↔∀ x∈m,p x=true
 | []=>by simp
 | a::r=>by
  cases ha:p a
  ·simp[List.dropWhile,ha]
  ·have:=ou (p:=p) r;simp[List.dropWhile,ha,this]
theorem Iz (l cs:LU):Lib.trimS l cs=[]↔l.all (fun c=>cs.contains c)=true:=by
 unfold Lib.trimS Lib.trimLeftS Lib.trimRightS;rw[ou,List.all_eq_true];constructor
 ·intro h x hx;exact ot l.reverse (fun y hy=>h y (List.mem_reverse.2 hy)) x (List.mem_reverse.2 hx)
 ·intro h x hx;have hx:=List.mem_reverse.1 hx;have hx2:x∈l.reverse:=(List.dropWhile_suffix _).subset hx;exact h x (List.mem_reverse.1 hx2)
theorem tW (s:BA)(w:World)(hs:s.size<=9223372036854775807):Calls Tryz.prog 187 #[.string s,.string Sc] w fun e w'=>(∃ t:BA,e=.returned (.string t)/\t.toList.isEmpty=Bh (bl s))/\Below w.heap.size w w':=
 (Any.strings_Trim_ascii Tryz.lays160 (fun w=>by kernel_rfl) (by kernel_rfl) s Sc w hs (by decide) (fun j b hj=>by
  have hm:b∈Lu:=gM hj;simp only[Lu,List.mem_cons,List.not_mem_nil,or_false] at hm;rcases hm with rfl | rfl | rfl | rfl | rfl | rfl | rfl | rfl | rfl | rfl | rfl | rfl | rfl | rfl | rfl | rfl<;>decide)).mono fun e w' ⟨he,hb⟩=>⟨⟨_,he,by
   rw[aj,jB,bI,List.isEmpty_iff];exact Iz _ _⟩,hb⟩
theorem tX (fmt:Int)(hf:fmt=1\/fmt=2\/fmt=3)(s:BA)(w:World)(hs:s.size<=9223372036854775807):Calls Tryz.prog 134 #[.int .i64 fmt,.string s] w fun e w'=>e=.returned (.bool (Iy fmt s))/\Below w.heap.size w w':=by
 have key:∀ n:Nat,Lv fmt=n->Iy fmt s=(decide (s.size=n)&&Bh (bl s)):=fun n hn=>by unfold Iy;rw[hn]
 rcases hf with rfl | rfl | rfl
 ·have K:=ae (key 32 (by decide));clear key;by_cases hl:s.size=32
  ·have hl1:((s.size:Int)==32)=true:=kV hl;have E:Hid (Iy 1 s=Bh (bl s)):=by show _=_;rw[K.out,dT hl];rfl
   clear hl;go_in;go_wp2_with fail;refine(tW s _ hs).mono ?_;rintro e w1 ⟨⟨t,rfl,ht⟩,hb⟩;have HT:=ae ht;have HB:=ae hb;clear ht hb;go_wp2;go_ret;exact⟨af (by rw[E.out];exact HT.out),HB.out⟩
  ·have hl1:((s.size:Int)==32)=false:=jo hl;have E:Hid (Iy 1 s=false):=by show _=_;rw[K.out,dF hl];rfl
   clear hl;go_in;go_wp2;go_ret;exact⟨af (by rw[E.out]),bR⟩
 ·have K:=ae (key 64 (by decide));clear key;by_cases hl:s.size=64
  ·have hl1:((s.size:Int)==64)=true:=kV hl;have E:Hid (Iy 2 s=Bh (bl s)):=by show _=_;rw[K.out,dT hl];rfl
   clear hl;go_in;go_wp2_with fail;refine(tW s _ hs).mono ?_;rintro e w1 ⟨⟨t,rfl,ht⟩,hb⟩;have HT:=ae ht;have HB:=ae hb;clear ht hb;go_wp2;go_ret;exact⟨af (by rw[E.out];exact HT.out),HB.out⟩
  ·have hl1:((s.size:Int)==64)=false:=jo hl;have E:Hid (Iy 2 s=false):=by show _=_;rw[K.out,dF hl];rfl
   clear hl;go_in;go_wp2;go_ret;exact⟨af (by rw[E.out]),bR⟩
 ·have K:=ae (key 40 (by decide));clear key;by_cases hl:s.size=40
  ·have hl1:((s.size:Int)==40)=true:=kV hl;have E:Hid (Iy 3 s=Bh (bl s)):=by show _=_;rw[K.out,dT hl];rfl
   clear hl;go_in;go_wp2_with fail;refine(tW s _ hs).mono ?_;rintro e w1 ⟨⟨t,rfl,ht⟩,hb⟩;have HT:=ae ht;have HB:=ae hb;clear ht hb;go_wp2;go_ret;exact⟨af (by rw[E.out];exact HT.out),HB.out⟩
  ·have hl1:((s.size:Int)==40)=false:=jo hl;have E:Hid (Iy 3 s=false):=by show _=_;rw[K.out,dF hl];rfl
   clear hl;go_in;go_wp2;go_ret;exact⟨af (by rw[E.out]),bR⟩
end
section
open Go.RowKit Go.Extern.Stop Go.Stop Go.Extern
theorem L9 (b:Nat)(x y:Int)(w:World)(hG:w.cell? ⟨8,0,none⟩=some (.iface 317 (.agg #[.pointer (some ⟨12,228,none⟩)])))(hB:ax w b [.int .i64 0,.int .i64 0]):Calls Tryz.prog 219 #[.iface 264 (.agg #[.int .i64 x,.int .i64 y]),.iface 268 (.pointer (some ⟨b,0,none⟩))] w fun e w'=>e=.returned (.bool true)/\ax w' b [.int .i64 x,.int .i64 y]/\w.grownBy w' (some b):=by
 have e1:=@run_callFunc_extern Tryz.prog 247 _ (fun args=>ReflectliteValue.unpack (args.getD 0 (.tuple #[]))) Tryz.func247 (by kernel_rfl) (by kernel_rfl) (by kernel_rfl) (by kernel_rfl);have e2 := @run_callFunc_extern Tryz.prog 248 _ (ReflectliteValue.methodAny (ReflectliteValue.valueError "reflectlite.Value.Type" 0) (fun t _ _ _ => ReflectliteType.toType t)) Tryz.func248 (by kernel_rfl) (by kernel_rfl) (by kernel_rfl) (by kernel_rfl);have e3 := @run_callFunc_extern Tryz.prog 249 _ (ReflectliteValue.method (ReflectliteValue.valueError "reflectlite.Value.IsNil" 0) ReflectliteValue.isNil) Tryz.func249 (by kernel_rfl) (by kernel_rfl) (by kernel_rfl) (by kernel_rfl);have e4:=@run_callFunc_extern Tryz.prog 285 _ (ReflectliteType.abiMethod fun t=>do pure (.int .u8 (<-Rtype.kind t))) Tryz.func285 (by kernel_rfl) (by kernel_rfl) (by kernel_rfl) (by kernel_rfl);have e5:=@run_callFunc_extern Tryz.prog 299 _ (ReflectliteType.method ReflectliteType.elem) Tryz.func299 (by kernel_rfl) (by kernel_rfl) (by kernel_rfl) (by kernel_rfl);have e6 := @run_callFunc_extern Tryz.prog 300 _ (ReflectliteType.relation "Implements" ReflectliteType.implements_) Tryz.func300 (by kernel_rfl) (by kernel_rfl) (by kernel_rfl) (by kernel_rfl);have e7:=@run_callFunc_extern Tryz.prog 266 _ ReflectliteType.typeOf Tryz.func266 (by kernel_rfl) (by kernel_rfl) (by kernel_rfl) (by kernel_rfl);have e8 := @run_callFunc_extern Tryz.prog 297 _ (ReflectliteType.relation "AssignableTo" ReflectliteType.assignableTo) Tryz.func297 (by kernel_rfl) (by kernel_rfl) (by kernel_rfl) (by kernel_rfl);have e9 := @run_callFunc_extern Tryz.prog 267 _ (ReflectliteValue.method (ReflectliteValue.valueError "reflectlite.Value.Elem" 0) ReflectliteValue.elem) Tryz.func267 (by kernel_rfl) (by kernel_rfl) (by kernel_rfl) (by kernel_rfl);have e10:=@run_callFunc_extern Tryz.prog 268 _ ReflectliteValue.set Tryz.func268 (by kernel_rfl) (by kernel_rfl) (by kernel_rfl) (by kernel_rfl);have m1:=oB;have m2:=oC;have m3:=jD;have m4:=iz;have q1:=zK;have q2:=BG;have q3:=IX;have q4:=IY;have q5:=LZ;have q6:=IZ;have q7:=uE;have q8:=uF;have q9:=uG;have hg0:=World.block_lt_of_cell? _ _ hG;have hg0:8<w.heap.size:=hg0;have hb0:=hB.sz
 let W1:=w.alloc (.cells #[.pointer (some ⟨b,0,none⟩)] 268)
 let W2:=W1.alloc (.cells #[.pointer (some ⟨12,268,none⟩),.pointer (some ⟨w.heap.size,0,none⟩),.int .u64 150] 293)
 let W3:=W2.alloc (.cells #[.pointer (some ⟨12,268,none⟩),.pointer (some ⟨w.heap.size,0,none⟩),.int .u64 150] 293)
 let W4:=W3.alloc (.cells #[.int .i64 x,.int .i64 y] 264)
 have K1:ax W1 w.heap.size [.pointer (some ⟨b,0,none⟩)]:=ax.new w _ _;have K2:ax W2 w.heap.size [.pointer (some ⟨b,0,none⟩)]:=K1.alloc _;have K3:ax W3 w.heap.size [.pointer (some ⟨b,0,none⟩)]:=K2.alloc _;have K4:ax W4 (w.heap.size+1+1+1) [.int .i64 x,.int .i64 y]:=by have:=ax.new W3 [.int .i64 x,.int .i64 y] 264;simpa [W3,W2,W1] using this
 have T4:ax W4 b [.int .i64 0,.int .i64 0]:=(((hB.alloc _).alloc _).alloc _).alloc _;have n8:=Eu ⟨w.heap.size,0,none⟩ ⟨b,0,none⟩ W2 (K2.cell 0 _ rfl);have el:=Ev ⟨w.heap.size,0,none⟩ ⟨b,0,none⟩ W3 (K3.cell 0 _ rfl);have st:=OS b (w.heap.size+1+1+1) x y _ _ W4 (K4.cell 0 _ rfl) (K4.cell 1 _ rfl) (T4.cell 0 _ rfl) (T4.cell 1 _ rfl) (T4.free 0 (by simp)) (T4.free 1 (by simp));have hg2:W2.cell? ⟨8,0,none⟩=some (.iface 317 (.agg #[.pointer (some ⟨12,228,none⟩)])):=by
  show((w.alloc _).alloc _).cell? _=_;rw[World.cell?_alloc_lt _ _ ⟨8,0,none⟩ (by simp;omega),World.cell?_alloc_lt _ _ ⟨8,0,none⟩ hg0];exact hG
 have FIN:Hid (ax ((W4.setCell ⟨b,0,none⟩ (.int .i64 x)).setCell ⟨b,1,none⟩ (.int .i64 y)) b [.int .i64 x,.int .i64 y]):=(T4.set 0 (by simp) _).set 1 (by simp) _;have GRW:Hid (w.grownBy ((W4.setCell ⟨b,0,none⟩ (.int .i64 x)).setCell ⟨b,1,none⟩ (.int .i64 y)) (some b)):=by
  have hb4:Below w.heap.size w W4:=(((bR.alloc lr _).alloc (by simp) _).alloc (by simp;omega) _).alloc (by simp;omega) _;have g4:w.grownBy W4 (some b):=⟨hb4.os,hb4.tape,hb4.output,hb4.size,fun i hi _=>hb4.block i hi⟩
  exact ap (ap g4 (.inl rfl) _) (.inl rfl) _
 simp only[W4,W3,W2,W1] at n8 el st hg2 FIN GRW;clear K1 K2 K3 K4 T4 hB;clear W4 W3 W2 W1;go_in;go_wp2;refine wp_loop_rounds 1 ?_;rw[rounds_succ];go_wp2;go_ret;exact⟨rfl,FIN.out,GRW.out⟩
end
section
open Go.RowKit
theorem ax.grown {wr w':World}{b c:Nat}{vs:LV}(h:ax wr c vs)(hg:wr.grownBy w' (some b))(hne:c≠b):ax w' c vs:=by
 have hk:w'.heap[c]?=wr.heap[c]?:=hg.block c h.sz (by intro e;injection e with e;exact hne e);refine⟨Nat.lt_of_lt_of_le h.sz hg.size,fun j u hu=>?_,fun j hj=>?_⟩
 ·exact(World.cell?_of_block (a:=⟨c,j,none⟩) hk).trans (h.cell j u hu)
 ·exact(World.frozen?_of_block (a:=⟨c,j,none⟩) hk).trans (h.free j hj)
def fj (f:BA)(a c:Int):Value:=.agg #[.string f,.int .i64 a,.int .i64 c]
theorem zN (x y p:Int)(w:World)(hG:zL w):Calls Tryz.prog 181 #[.iface 264 (.agg #[.int .i64 x,.int .i64 y]),.int .i64 p] w fun e w'=>(∃ a:Int,e=.returned (fj ⟨#[]⟩ a y))/\Below w.heap.size w w':=by
 have HG:=ae hG;clear hG;go_in;go_wp2_with fail
 let W1:=w.alloc (.cells #[.string ⟨#[]⟩,.int .i64 0,.int .i64 0] 163)
 let W2:=W1.alloc (.cells #[.string ⟨#[]⟩,.int .i64 p,.int .i64 3] 163)
 let W3:=W2.alloc (.cells #[.int .i64 0,.int .i64 0] 264)
 have A3:ax W3 w.heap.size [.string ⟨#[]⟩,.int .i64 0,.int .i64 0]:=((ax.new w _ _).alloc _).alloc _;have F3:ax W3 (w.heap.size+1) [.string ⟨#[]⟩,.int .i64 p,.int .i64 3]:=by have:=(ax.new W1 [.string ⟨#[]⟩,.int .i64 p,.int .i64 3] 163).alloc (.cells #[.int .i64 0,.int .i64 0] 264);simpa [W1] using this
 have T3:ax W3 (w.heap.size+1+1) [.int .i64 0,.int .i64 0]:=by have:=ax.new W2 [.int .i64 0,.int .i64 0] 264;simpa [W2,W1] using this
 have B3:Below w.heap.size w W3:=((bR.alloc lr _).alloc (by simp) _).alloc (by simp;omega) _;refine(L9 (w.heap.size+1+1) x y W3 (HG.out.below B3).2 T3).mono ?_;rintro e w1 ⟨rfl,t1,hg1⟩;have KA:Hid (ax w1 w.heap.size [.string ⟨#[]⟩,.int .i64 0,.int .i64 0]):=A3.grown hg1 (by omega);have KF:Hid (ax w1 (w.heap.size+1) [.string ⟨#[]⟩,.int .i64 p,.int .i64 3]):=F3.grown hg1 (by omega);have KT:Hid (ax w1 (w.heap.size+1+1) [.int .i64 x,.int .i64 y]):=t1;have BB:Hid (Below w.heap.size w w1):=B3.grown hg1 B3.size (fun j hj=>by injection hj with hj;omega);clear t1 hg1 A3 F3 T3 B3;clear W3 W2 W1;have f1:=KF.out.cell 1 _ rfl;have ff1:=KF.out.free 1 (by simp);have t0:=KT.out.cell 0 _ rfl;go_wp2_with fail;have hw1:=KA.out.sz;have hw2:=KT.out.sz;obtain⟨q,hq⟩:∃ q,wrap64 (p+x)=q:=⟨_,rfl⟩
 let V1:=(w1.setCell ⟨w.heap.size+1,1,none⟩ (.int .i64 (wrap64 (p+x)))).alloc (.cells #[.int .i64 0] 36)
 have A1:ax V1 w.heap.size [.string ⟨#[]⟩,.int .i64 0,.int .i64 0]:=(KA.out.far (by omega) _).alloc _;have F1:ax V1 (w.heap.size+1) [.string ⟨#[]⟩,.int .i64 (wrap64 (p+x)),.int .i64 3]:=(KF.out.set 1 (by simp) _).alloc _;have T1:ax V1 w1.heap.size [.int .i64 0]:=by have:=ax.new (w1.setCell ⟨w.heap.size+1,1,none⟩ (.int .i64 (wrap64 (p+x)))) [.int .i64 0] 36;simpa using this
 have B1:Below w.heap.size w V1:=(ai BB.out (by omega) _).alloc (by simp;omega) _;refine(Mb w1.heap.size x y V1 (HG.out.below B1).2 T1).mono ?_;rintro e w2 ⟨rfl,t2,hg2⟩;have LA:Hid (ax w2 w.heap.size [.string ⟨#[]⟩,.int .i64 0,.int .i64 0]):=A1.grown hg2 (by omega);have LF:Hid (ax w2 (w.heap.size+1) [.string ⟨#[]⟩,.int .i64 q,.int .i64 3]):=by rw[<-hq];exact F1.grown hg2 (by omega)
 have LT:Hid (ax w2 w1.heap.size [.int .i64 y]):=t2;have CB:Hid (Below w.heap.size w w2):=B1.grown hg2 B1.size (fun j hj=>by injection hj with hj;omega);clear t2 hg2 A1 F1 T1 B1;clear V1;clear f1 ff1 t0;have f0:=LF.out.cell 0 _ rfl;have f1:=LF.out.cell 1 _ rfl;have f2:=LF.out.cell 2 _ rfl;have ff2:=LF.out.free 2 (by simp);have t0:=LT.out.cell 0 _ rfl;have a0:=LA.out.cell 0 _ rfl;have a1:=LA.out.cell 1 _ rfl;have a2:=LA.out.cell 2 _ rfl;have fa0:=LA.out.free 0 (by simp);have fa1:=LA.out.free 1 (by simp);have fa2:=LA.out.free 2 (by simp);go_wp2_with fail;refine bodyPost_ret (v:=.agg #[.string ⟨#[]⟩,.int .i64 q,.int .i64 y]) (by simp[results,Tryz.results181,go_sem,a0,a1,a2]) rfl ⟨⟨q,rfl⟩,?_⟩;exact ai (ai (ai (ai CB.out (Nat.le_succ _) _) lr _) lr _) lr _
end
def jy (m tl:LU):Prop:=tl.length=64/\tl.take (m.length % 64)=m.drop (m.length / 64*64)
def eP (m tl r:LU):LU:=tl.take (m.length % 64)++(r++tl.drop (m.length % 64+r.length))
theorem rY (h:tl.length=64)(hr:m.length % 64+r.length<=64):(eP m tl r).length=64:=by
 simp[eP,h];omega
theorem jy.zero (h:tl.length=64)(hm:m.length % 64=0):jy m tl:=by
 refine⟨h,?_⟩;rw[hm,List.take_zero,List.drop_eq_nil_of_le (by omega)]
theorem jy.part (h:jy m tl)(hr:m.length % 64+r.length<64):jy (m++r) (eP m tl r):=by
 obtain⟨h1,h2⟩:=h;refine⟨rY h1 (by omega),?_⟩;have e1:(m++r).length % 64=m.length % 64+r.length:=by rw[List.length_append];omega
 have e2:(m++r).length / 64=m.length / 64:=by rw[List.length_append];omega
 rw[e1,e2,List.drop_append_of_le_length (by omega),<-h2];unfold eP;rw[<-List.append_assoc,List.take_append_of_le_length (by simp[h1];omega)];exact tL (by simp;omega)
theorem jy.full (h:jy m tl)(hr:m.length % 64+r.length=64):eP m tl r=m.drop (m.length / 64*64)++r:=by
 obtain⟨h1,h2⟩:=h;unfold eP;rw[<-h2,List.drop_eq_nil_of_le (by omega),List.append_nil]
theorem xy (kd:Nat)(h:jy m tl)(hr:m.length % 64+r.length=64):de kd (m++r)=im kd (de kd m) (eP m tl r):=by
 rw[Ak kd hr,h.full hr]
section
open Go.RowKit
theorem vO (n:Nat):(madeCells (Value.int .u8 0).cells (n*1)).toList=(List.replicate n (0:UInt8)).map vb:=by
 apply List.ext_getElem?;intro j;rw[Nat.mul_one,List.map_replicate,List.getElem?_replicate];by_cases h:j<n
 ·simp[madeCells,h,Value.cells,vb,Nat.mod_one]
 ·rw[if_neg h,List.getElem?_eq_none (by simp[madeCells];omega)]
theorem C8 (x i s:Nat)(hs:8*i=s):((x:Int) / 2 ^ s) % 256=((dg x i).toNat:Int):=by
 have hp:256 ^ i=2 ^ s:=by rw[<-hs,Nat.pow_mul]
 unfold dg;rw[hp];simp
theorem Rj {m:Nat}(c:UInt8):((List.replicate (n+1) (0:UInt8)++r).map vb).set n (vb c)=(List.replicate n 0++c::r).map vb:=by
 rw[List.replicate_succ',List.append_assoc,List.map_append,List.map_append,List.set_append_right _ _ (by simp)];simp
theorem Rk (c:UInt8):((r++List.replicate (n+1) (0:UInt8)).map vb).set r.length (vb c)=(r++[c]++List.replicate n 0).map vb:=by
 rw[List.replicate_succ,List.map_append,List.set_append_right _ _ (by simp)];simp
theorem qp:(Tryz.prog.info? 5).map (fun i=>(i.zero,i.size,i.bytes))=some (some (.int .u8 0),1,1):=by kernel_rfl
theorem M0 (x k:Nat)(w:World)(hx:x<18446744073709551616)(hk:1<=k)(hk8:k<=8):Calls Tryz.prog 98 #[.int .u64 x,.int .i64 k] w fun e w'=>∃ g,e=.returned (.slice (some ⟨g,0,none⟩) k k)/\w'.ownsRow w.heap.size 5 1 (.slice (some ⟨g,0,none⟩) k k) k (Lib.byteCells (JS x k))/\Below w.heap.size w w':=by
 obtain⟨i0,hi,hz0,hz1,hz2⟩:=info_parts qp;have d1:decide ((k:Int)<1)=false:=dF (by omega);have d2:decide ((8:Int)<(k:Int))=false:=dF (by omega);go_in
 go_wp2_with (
  refine wpList_make_full _ rfl _ _ _ rfl w.heap.size 5 i0 _ 1 Tryz.underlying33 hi hz0 hz1 .i64 .i64 _ _ k rfl rfl rfl rfl (by rw[hz2];omega) (by simp only[maxLen];omega) (by omega) ?_;intro w1 hr1 hg1)
 have R0:Hid (w1.ownsRow w.heap.size 5 1 (.slice (some ⟨w.heap.size,0,none⟩) k k) k ((List.replicate (k-0) 0++JS x 0).map vb)):=by
  have:=hr1;rw[vO] at this;show World.ownsRow _ _ _ _ _ _ _;simpa [FO,JS] using this
 have L0:=ae ((Below.refl w.heap.size w).grown hg1 lr (by simp));clear hr1 hg1;go_wp2;go_loopw [16] (fun s16 wr=>∃ i:Nat,i<=k/\s16=.int .i64 i/\Hid (wr.ownsRow w.heap.size 5 1 (.slice (some ⟨w.heap.size,0,none⟩) k k) k ((List.replicate (k-i) 0++JS x i).map vb))/\Hid (Below w.heap.size w wr)) (fun s16 _=>k-(intOf s16).toNat)
 case atStart=>exact⟨0,z0,rfl,R0,L0⟩
 case round=>
  obtain⟨i,hik,rfl,HR,HL⟩:=hrel;by_cases hlt:i<k
  ·obtain⟨m,hm⟩:∃ m,k-i=m+1:=⟨k-i-1,by omega⟩
   have hmi:(k:Int)-1-(i:Int)=(m:Int):=by omega
   obtain⟨s,hs⟩:∃ s,8*i=s:=⟨_,rfl⟩
   have hsi:(8:Int)*(i:Int)=(s:Int):=by omega
   have hs64:s<64:=by omega
   have hsh:=C8 x i s hs;obtain⟨d,hd⟩:∃ d,dg x i=d:=⟨_,rfl⟩
   rw[hd] at hsh;have hmk:m<k:=by omega
   have cm:=HR.out.cellAt (m) (by omega);obtain⟨u,hu⟩:∃ u,((List.replicate (k-i) 0++JS x i).map vb)[m]?=some u:=⟨_,gG (by simp[mr,qm];omega)⟩
   rw[hu] at cm;have fm:=HR.out.frozenAt (m);have HN:Hid ((wr.setCell ⟨w.heap.size,m,none⟩ (vb d)).ownsRow w.heap.size 5 1 (.slice (some ⟨w.heap.size,0,none⟩) k k) k ((List.replicate (k-(i+1)) 0++JS x (i+1)).map vb)):=by
    have:=(HR.out.stored (m) (vb d)).1;rw[hm] at this;rw[Rj (m:=0)] at this;show World.ownsRow _ _ _ _ _ _ _;rw[show k-(i+1)=m by omega,MJ,hd];exact this
   have HL2:=ae (HL.out.setCell (p:=⟨w.heap.size,m,none⟩) lr (vb d));unfold vb at HN HL2;clear hm hs hd hu;go_wp2;go_roundw
   case rel=>exact⟨i+1,by omega,by go_num,HN,HL2⟩
   case measure=>simp[intOf];omega
  ·obtain rfl:i=k:=by omega
   go_wp2;go_ret;refine⟨_,rfl,?_,HL.out⟩;have:=HR.out;rw[Nat.sub_self,List.replicate_zero,List.nil_append] at this;exact this
theorem M6 (x k:Nat)(w:World)(hx:x<18446744073709551616)(hk:1<=k)(hk8:k<=8):Calls Tryz.prog 99 #[.int .u64 x,.int .i64 k] w fun e w'=>∃ g,e=.returned (.slice (some ⟨g,0,none⟩) k k)/\w'.ownsRow w.heap.size 5 1 (.slice (some ⟨g,0,none⟩) k k) k (Lib.byteCells (FO x k))/\Below w.heap.size w w':=by
 obtain⟨i0,hi,hz0,hz1,hz2⟩:=info_parts qp;have d1:decide ((k:Int)<1)=false:=dF (by omega);have d2:decide ((8:Int)<(k:Int))=false:=dF (by omega);go_in
 go_wp2_with (
  refine wpList_make_full _ rfl _ _ _ rfl w.heap.size 5 i0 _ 1 Tryz.underlying33 hi hz0 hz1 .i64 .i64 _ _ k rfl rfl rfl rfl (by rw[hz2];omega) (by simp only[maxLen];omega) (by omega) ?_;intro w1 hr1 hg1)
 have R0:Hid (w1.ownsRow w.heap.size 5 1 (.slice (some ⟨w.heap.size,0,none⟩) k k) k ((FO x 0++List.replicate (k-0) 0).map vb)):=by
  have:=hr1;rw[vO] at this;show World.ownsRow _ _ _ _ _ _ _;simpa [FO,JS] using this
 have L0:=ae ((Below.refl w.heap.size w).grown hg1 lr (by simp));clear hr1 hg1;go_wp2;go_loopw [16] (fun s16 wr=>∃ i:Nat,i<=k/\s16=.int .i64 i/\Hid (wr.ownsRow w.heap.size 5 1 (.slice (some ⟨w.heap.size,0,none⟩) k k) k ((FO x i++List.replicate (k-i) 0).map vb))/\Hid (Below w.heap.size w wr)) (fun s16 _=>k-(intOf s16).toNat)
 case atStart=>exact⟨0,z0,rfl,R0,L0⟩
 case round=>
  obtain⟨i,hik,rfl,HR,HL⟩:=hrel;by_cases hlt:i<k
  ·obtain⟨m,hm⟩:∃ m,k-i=m+1:=⟨k-i-1,by omega⟩
   obtain⟨s,hs⟩:∃ s,8*i=s:=⟨_,rfl⟩
   have hsi:(8:Int)*(i:Int)=(s:Int):=by omega
   have hs64:s<64:=by omega
   have hsh:=C8 x i s hs;obtain⟨d,hd⟩:∃ d,dg x i=d:=⟨_,rfl⟩
   rw[hd] at hsh;have hmk:i<k:=by omega
   have cm:=HR.out.cellAt (i) (by omega);obtain⟨u,hu⟩:∃ u,((FO x i++List.replicate (k-i) 0).map vb)[i]?=some u:=⟨_,gG (by simp[mr,qm];omega)⟩
   rw[hu] at cm;have fm:=HR.out.frozenAt (i);have HN:Hid ((wr.setCell ⟨w.heap.size,i,none⟩ (vb d)).ownsRow w.heap.size 5 1 (.slice (some ⟨w.heap.size,0,none⟩) k k) k ((FO x (i+1)++List.replicate (k-(i+1)) 0).map vb)):=by
    have:=(HR.out.stored (i) (vb d)).1;rw[hm] at this;have e:=Rk (n:=m) (r:=FO x i) d;rw[mr] at e;rw[e] at this;show World.ownsRow _ _ _ _ _ _ _;rw[show k-(i+1)=m by omega,CI,hd];exact this
   have HL2:=ae (HL.out.setCell (p:=⟨w.heap.size,i,none⟩) lr (vb d));unfold vb at HN HL2;clear hm hs hd hu;go_wp2;go_roundw
   case rel=>exact⟨i+1,by omega,by go_num,HN,HL2⟩
   case measure=>simp[intOf];omega
  ·obtain rfl:i=k:=by omega
   go_wp2;go_ret;refine⟨_,rfl,?_,HL.out⟩;have:=HR.out;rw[Nat.sub_self,List.replicate_zero,List.append_nil] at this;exact this
theorem kO (fmt:Int)(s:BA)(w:World)(hs:s.size<=9223372036854775807):Calls Tryz.prog 79 #[.int .i64 fmt,.string s] w fun e w'=>e=.returned (.bool (eT fmt s))/\w=w':=by
 by_cases h1:s.size<1
 ·have E:Hid (eT fmt s=false):=by show _=_;unfold eT;rw[dF];rfl
  go_in;go_wp2;go_ret;exact⟨af E.out.symm,rfl⟩
 by_cases h2:31<s.size
 ·have E:Hid (eT fmt s=false):=by show _=_;unfold eT;rw[dF];rfl
  go_in;go_wp2;go_ret;exact⟨af E.out.symm,rfl⟩
 by_cases h3:fmt=3
 ·subst h3;have E:Hid (eT 3 s=Lt s):=by show _=_;unfold eT;rw[dT,if_pos rfl];rfl
  unfold Lt at E;cases g1:(s.toList == [114,111,111,116])
  ·have G1:Hid (decide (bl s=[114,111,111,116])=false):=by show _=_;rw[<-pC];exact g1
   go_in;go_wp2_with fail;refine(kG s _ hs).mono ?_;rintro e w' ⟨rfl,rfl⟩;unfold jn;by_cases g2:gb (bl s)=0
   ·by_cases g3:1<=iI (bl s)
    ·have g2':(gb (bl s)==0)=true:=by simpa using g2
     have EE:Hid (eT 3 s=decide (iI (bl s)<=2097151)):=by show _=_;rw[E.out,G1.out,dT g2,dT g3];rfl
     clear g2;go_wp2;go_ret;exact⟨af (by rw[EE.out]),rfl⟩
    ·have g2':(gb (bl s)==0)=true:=by simpa using g2
     have EE:Hid (eT 3 s=false):=by show _=_;rw[E.out,G1.out,dF g3];simp
     clear g2;go_wp2;go_ret;exact⟨af (by rw[EE.out]),rfl⟩
   ·have g2':(gb (bl s)==0)=false:=by simpa using g2
    have EE:Hid (eT 3 s=false):=by show _=_;rw[E.out,G1.out,dF g2];simp
    clear g2;go_wp2;go_ret;exact⟨af (by rw[EE.out]),rfl⟩
  ·have EE:Hid (eT 3 s=true):=by show _=_;rw[E.out,<-pC,g1];rfl
   go_in;go_wp2_with fail;refine(kG s _ hs).mono ?_;rintro e w' ⟨rfl,rfl⟩;unfold jn;go_wp2;go_ret;exact⟨af (by rw[EE.out]),rfl⟩
 ·have h3':(fmt==3)=false:=by simpa using h3
  have E:Hid (eT fmt s=gZ s):=by show _=_;unfold eT;rw[dT,if_neg h3];rfl
  clear h3;go_in;go_wp2;go_loop [41] (fun i=>∃ k:Nat,k<=s.size/\i=.int .i64 k/\Hid (∀ j (h:j<s.size),j<k->jY j s[j]=true)) (fun i=>s.size-(intOf i).toNat)
  case atStart=>exact⟨0,z0,rfl,ae (fun j h hj=>by omega)⟩
  case round=>
   obtain⟨k,hk,rfl,HA⟩:=hrel;by_cases hlt:k<s.size
   ·by_cases a1:97<=s[k].toNat
    ·by_cases a2:s[k].toNat<=122
     ·skip
      have HC:Hid (jY k s[k]=true):=dT (by omega);go_wp2;go_round
      case rel=>exact⟨k+1,by omega,by go_num,ae (jd hlt HA.out HC.out)⟩
      case measure=>simp[intOf];omega
     ·have t122:decide ((s[k].toNat:Int)<=122)=false:=dF (by omega);have t95:((s[k].toNat:Int)==95)=false:=jo (by omega:¬ s[k].toNat=95);have t45:((s[k].toNat:Int) != 45)=true:=tq (by omega:¬ s[k].toNat=45);have t57:57<s[k].toNat:=by omega
      have HC:Hid (gZ s=false):=kJ hlt dF;by_cases k0:k=0
      ·have tk:((k:Int)==0)=true:=kV k0;clear k0;go_wp2;go_ret;exact⟨af (by rw[E.out,HC.out]),rfl⟩
      ·have tk:((k:Int)==0)=false:=jo k0;have t48:decide ((s[k].toNat:Int)<48)=false:=dF (by omega);have t58:decide (57<(s[k].toNat:Int))=true:=dT (by omega);clear k0;go_wp2;go_ret;exact⟨af (by rw[E.out,HC.out]),rfl⟩
    ·by_cases g95:s[k].toNat=95
     ·have t95:((s[k].toNat:Int)==95)=true:=kV g95;have HC:Hid (jY k s[k]=true):=dT (by omega);clear g95;go_wp2;go_round
      case rel=>exact⟨k+1,by omega,by go_num,ae (jd hlt HA.out HC.out)⟩
      case measure=>simp[intOf];omega
     ·skip
      have t95:((s[k].toNat:Int)==95)=false:=jo g95;by_cases k0:k=0
      ·have tk:((k:Int)==0)=true:=kV k0;have HC:Hid (gZ s=false):=kJ hlt dF;clear k0;go_wp2;go_ret;exact⟨af (by rw[E.out,HC.out]),rfl⟩
      have tk:((k:Int)==0)=false:=jo k0;by_cases g45:s[k].toNat=45
      ·have t45:((s[k].toNat:Int) != 45)=false:=GV g45;have HC:Hid (jY k s[k]=true):=dT (by omega);clear g45;go_wp2;go_round
       case rel=>exact⟨k+1,by omega,by go_num,ae (jd hlt HA.out HC.out)⟩
       case measure=>simp[intOf];omega
      have t45:((s[k].toNat:Int) != 45)=true:=tq g45;by_cases g48:s[k].toNat<48
      ·skip
       have HC:Hid (gZ s=false):=kJ hlt dF;go_wp2;go_ret;exact⟨af (by rw[E.out,HC.out]),rfl⟩
      by_cases g57:57<s[k].toNat
      ·skip
       have HC:Hid (gZ s=false):=kJ hlt dF;go_wp2;go_ret;exact⟨af (by rw[E.out,HC.out]),rfl⟩
      ·skip
       have HC:Hid (jY k s[k]=true):=dT (by omega);go_wp2;go_round
       case rel=>exact⟨k+1,by omega,by go_num,ae (jd hlt HA.out HC.out)⟩
       case measure=>simp[intOf];omega
   ·have HE:Hid (gZ s=true):=dT (fun j h=>HA.out j h (by omega));go_wp2;go_ret;exact⟨af (by rw[E.out,HE.out]),rfl⟩
end
section
open Go.ChangeShapes Go.WideShapes Go.Deep Go.RowKit
section
variable {H : Type} {enc : TypeId × Value -> H} {w : World} {spare : Nat -> Bool}
theorem GO {x:Int}(h:(Lit.int .u8 x).wf=true):∃ c:UInt8,x=(c.toNat:Int):=by
 have hb:0<=x/\x<256:=by
  have h2:(0:Int)<=x/\x<=255:=by
   unfold Lit.wf at h;rw[Bool.and_eq_true,decide_eq_true_eq,decide_eq_true_eq] at h;rw[show IntKind.u8.min=0 by kernel_rfl,show IntKind.u8.max=255 by kernel_rfl] at h;exact h
  omega
 refine⟨UInt8.ofNat x.toNat,?_⟩;have:x.toNat<256:=by omega
 simp;omega
theorem GP {fuel:Nat}{v:Value}{d:DataW H×List MemPlace}(h:DataW.trod enc Tryz.prog w 0 spare true fuel 33 [v]=some d):
  ∃ (A:OA) (n c:Nat) (l:LU),v=.slice A n c/\Rd w 1 A n (l.map vb)/\n<=c/\c<=9223372036854775807:=by
 rcases open_slice Tryz.underlying33 h with⟨hcs,_⟩ | ⟨a,len,cap,m,n,D,Pl,hcs,_,hl,hm,hmm,_,hi⟩
 ·injection hcs with hcs _;exact⟨none,0,0,[],hcs,Rd.nil _ _ _,z0,z0⟩
 ·injection hcs with hcs _;have hlen:len<=m:=by rw[hmm];split<;>omega
  have key:∀ i,i<len->∃ x:UInt8,w.cell? ⟨a.block,a.off+i,none⟩=some (vb x)/\a.add i=⟨a.block,a.off+i,none⟩:=by
   intro i hi';obtain⟨cs',hc,ht'⟩:=hi i (by omega);rw[show Tryz.prog.cellsOf 5=1 by kernel_rfl] at hc;obtain⟨_,hcl,hat⟩:=World.cells?_some hc;obtain⟨s,hs,_,hsz⟩:=DataW.trod_int Tryz.underlying5 ht';have h0:=hat 0 (by omega);rw[hs,Nat.mul_one] at h0;have h1:w.cell? (a.add i)=some (.int .u8 s):=by
    have e:(a.add i).add 0=a.add i:=by simp[Addr.add]
    rw[e] at h0;simpa using h0
   have h2:=nX h1;obtain⟨x,rfl⟩:=GO hsz;exact⟨x,by rw[<-h2];exact h1,h2⟩
  obtain⟨l,hll,hlq⟩:=tF len key;refine⟨some a,len,cap,l,hcs,⟨by simp[hll],fun hn=>?_⟩,hl,by unfold maxLen at hm;omega⟩
  ·refine⟨a.block,a.off,?_,fun j u hu=>?_⟩
   ·have h2:=(hlq 0 _ (gG (by rw[hll];exact hn))).2;simp only[Addr.add,if_pos,Nat.add_zero] at h2;rw[<-h2]
   ·simp only[List.getElem?_map,Option.map_eq_some_iff] at hu;obtain⟨x,hx,rfl⟩:=hu;exact(hlq j x hx).1
end
end
end Go.Proofs.YtlglfpbhapmhiaaGreatDoor
