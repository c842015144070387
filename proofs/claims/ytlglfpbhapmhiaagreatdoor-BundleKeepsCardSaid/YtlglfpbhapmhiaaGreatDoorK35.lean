/- A part of the proof. -/
import Derived.Test.YtlglfpbhapmhiaaGreatDoorK08
set_option maxRecDepth 100000
set_option maxHeartbeats 20000000
set_option linter.unusedVariables false
set_option linter.unusedSimpArgs false
namespace Go.Proofs.YtlglfpbhapmhiaaGreatDoor
section
open Go.RowKit
structure qj (w:World):Prop where
 t5:∀ i:Nat,i<64→w.cell? ⟨2,i,none⟩=some (.int .u32 (nv (Jm i)))
 tu:∀ i:Nat,i<64→w.cell? ⟨3,i / 16*4+i % 4,none⟩=some (.int .i64 (pn i))
 ts:∀ i:Nat,i<64→w.cell? ⟨4,i,none⟩=some (.int .u32 (nv (KX i)))
theorem qj.keep {w w':World}(h:qj w)(hk:∀ p:Addr,p.block<w.heap.size→w'.cell? p=w.cell? p):qj w':=
 ⟨fun i hi=>(hk _ (World.block_lt_of_cell? _ _ (h.t5 i hi))).trans (h.t5 i hi),fun i hi=>(hk _ (World.block_lt_of_cell? _ _ (h.tu i hi))).trans (h.tu i hi),fun i hi=>(hk _ (World.block_lt_of_cell? _ _ (h.ts i hi))).trans (h.ts i hi)⟩
theorem qj.below {w w':World}(h:qj w)(hb:Below w.heap.size w w'):qj w':=h.keep fun _ hp=>hb.cell hp
def Id (kv:Value)(s:S4)(rest:LV):LV:=kv::vw s.a::vw s.b::vw s.c::vw s.d::rest
theorem oh {ws:List bY}{s0:S4}{k q tu:Nat}{ya yb yc yd tk xk f s3:bY}(h:ju ws s0 k=⟨ya,yb,yc,yd⟩)(hq:k / 16=q)(ht:pn k=tu)(hk:Jm k=tk)(hx:ws.getD (Ga q k) 0=xk)(hf:f=C9 q yb yc yd)(hs:s3=ya+f+tk+xk):
  ju ws s0 (k+1)=⟨yd,yb+rl tu s3,yb,yc⟩:=by
 rw[ju,h,Ce,hq,ht,hk,hx,hs,hf]
theorem Ie (hb:Nat)(x0 x1 x2 x3 x4 x5 x6 x7 x8 x9 x10 x11 x12 x13 x14 x15 a b c d:bY)(kv:Value)(rest:LV)(w:World)(hG:qj w)
  (hB:av w hb (kv::vw a::vw b::vw c::vw d::rest)):
  Calls Tryz.prog 138 #[.pointer (some ⟨hb,0,none⟩),.agg #[vw x0,vw x1,vw x2,vw x3,vw x4,vw x5,vw x6,vw x7,vw x8,vw x9,vw x10,vw x11,vw x12,vw x13,vw x14,vw x15]] w fun e w'=>e=.returned (.tuple #[]) ∧
   av w' hb (Id kv (ju [x0,x1,x2,x3,x4,x5,x6,x7,x8,x9,x10,x11,x12,x13,x14,x15] ⟨a,b,c,d⟩ 64) rest)∧w.grownBy w' (some hb):=by
 obtain⟨W1,hW1⟩:∃ W1,w.alloc (.cells #[vw x0,vw x1,vw x2,vw x3,vw x4,vw x5,vw x6,vw x7,vw x8,vw x9,vw x10,vw x11,vw x12,vw x13,vw x14,vw x15] 180)=W1:=⟨_,rfl⟩
 have L1:Hid (Below w.heap.size w W1):=by show Below _ _ _;rw[←hW1];exact bR.alloc lr _
 obtain⟨ws,hws⟩:∃ ws,ws=[x0,x1,x2,x3,x4,x5,x6,x7,x8,x9,x10,x11,x12,x13,x14,x15]:=⟨_,rfl⟩
 have X1:Hid (∀ i:Nat,i<16→W1.cell? ⟨w.heap.size,i,none⟩=some (.int .u32 (nv (ws.getD i 0)))):=by
  show ∀ i:Nat,i<16→W1.cell? ⟨w.heap.size,i,none⟩=some (.int .u32 (nv (ws.getD i 0)))
  intro i hi
  have:=(av.new w (ws.map vw) 180).cell i (vw (ws.getD i 0)) (by rw[hws];rw[List.getElem?_map];rw[List.getD_eq_getElem?_getD,gG (by simpa using hi)];rfl)
  rw[←hW1]
  rw[hws] at this ⊢
  exact this
 have HB:Hid (av W1 hb (kv::vw a::vw b::vw c::vw d::rest)):=hB.below L1.out
 have b1:=HB.out.cell 1 _ rfl
 have b2:=HB.out.cell 2 _ rfl
 have b3:=HB.out.cell 3 _ rfl
 have b4:=HB.out.cell 4 _ rfl
 have HG:=ae (hG.below L1.out)
 have HWS:=ae hws
 clear hB hG hws
 unfold vw at b1 b2 b3 b4 hW1 ⊢
 go_enter Tryz.func138,Tryz.ntmps138
 go_wp2_with fail
 clear hW1
 go_quiet (fail)
 go_wp2_with fail
 go_loopw [32,4,5,6,7,11] (fun i sa sb sc sd _ wr=>∃ (k:Nat) (ya yb yc yd:bY),k≤64∧i=.int .i64 k∧sa=.int .u32 (nv ya)∧sb=.int .u32 (nv yb)∧sc=.int .u32 (nv yc)∧sd=.int .u32 (nv yd)∧Hid (ju ws ⟨a,b,c,d⟩ k=⟨ya,yb,yc,yd⟩)∧Hid (∃ n,wr=W1.drewN n)) (fun i _ _ _ _ _ _=>64-(intOf i).toNat)
 case atStart=>exact⟨0,a,b,c,d,by omega,rfl,rfl,rfl,rfl,rfl,rfl,_,rfl⟩
 case round=>
  obtain⟨k,ya,yb,yc,yd,hk,rfl,rfl,rfl,rfl,rfl,HS,HW⟩:=hrel
  by_cases hlt:k<64
  ·have XW:∀ p v,W1.cell? p=some v→wr.cell? p=some v:=fun p v h=>by obtain⟨n,hn⟩:=HW.out;rw[hn];exact h
   have t5:=XW _ _ (HG.out.t5 k hlt)
   have tu:=XW _ _ (HG.out.tu k hlt)
   have hr:=Gc k hlt
   obtain⟨q,hq⟩:∃ q,k / 16=q:=⟨_,rfl⟩
   obtain⟨r,hr4⟩:∃ r,k % 4=r:=⟨_,rfl⟩
   rw[hq,hr4] at tu
   have e2:(k:Int) / 16=(q:Int):=by omega
   have e4:(k:Int).tmod 4=(r:Int):=by rw[Int.tmod_eq_emod_of_nonneg (by omega)];omega
   have hgl:=Jn k hlt
   rw[hq] at hgl
   obtain⟨gk,hgk⟩:∃ gk,Ga q k=gk:=⟨_,rfl⟩
   rw[hgk] at hgl
   have xg:=XW _ _ (X1.out _ hgl)
   have hgi:(gk:Int)<16:=by omega
   have hqi:(q:Int)<4:=by omega
   have hri:(r:Int)<4:=by omega
   obtain⟨tur,htu⟩:∃ t,pn k=t:=⟨_,rfl⟩
   rw[htu] at tu hr
   obtain⟨tk,htk⟩:∃ t,Jm k=t:=⟨_,rfl⟩
   rw[htk] at t5
   obtain⟨xk,hxk⟩:∃ t,ws.getD gk 0=t:=⟨_,rfl⟩
   rw[hxk] at xg
   have hq4:q<4:=by omega
   have hr44:r<4:=by omega
   have HQ:=ae hq;have HR:=ae hr4;have HTU:=ae htu;have HTK:=ae htk;have HXK:=ae hxk;have HRR:=ae hr;have HGK:=ae hgk
   clear hq hr4 htu htk hxk hr hgk XW
   rcases(show q=0∨q=1∨q=2∨q=3 by omega) with rfl | rfl | rfl | rfl
   ·obtain⟨t1,t2,t3,f,h1,h2,h3,h4,HF⟩:∃ t1 t2 t3 f:bY,bits .and .u32 (nv yb) (nv yc)=nv t1∧bits .xor .u32 (if IntKind.u32.signed=true then -1 else IntKind.u32.max) (nv yb)=nv t2∧bits .and .u32 (nv t2) (nv yd)=nv t3∧bits .or .u32 (nv t1) (nv t3)=nv f∧Hid (f=C9 0 yb yc yd):=⟨_,_,_,_,qF _ _,vF _,qF _ _,xp _ _,rfl⟩
    have ew:IntKind.i64.wrap 0=0:=by rfl
    obtain rfl:k=gk:=HGK.out
    rw[show 0*4+r=r by omega] at tu
    obtain⟨s1,s2,s3,h5,h6,h7,HS3⟩:∃ s1 s2 s3:bY,IntKind.u32.wrap (nv ya+nv f)=nv s1∧IntKind.u32.wrap (nv s1+nv tk)=nv s2∧IntKind.u32.wrap (nv s2+nv xk)=nv s3∧Hid (s3=ya+f+tk+xk):=⟨_,_,_,eI _ _,eI _ _,eI _ _,rfl⟩
    have h8:=oz yb (rl tur s3)
    go_upto_region 14 with(fail)
    go_quiet ((go_at_call 189;exact Calls.quiet_of_same (cW s3 tur HRR.out.2 HRR.out.1 _)))
    go_wp2_with fail
    go_roundw
    case rel=>exact⟨k+1,yd,yb+rl tur s3,yb,yc,by omega,by go_num,rfl,rfl,rfl,rfl,oh HS.out HQ.out HTU.out HTK.out (HGK.out ▸ HXK.out) HF.out HS3.out,fD HW.out _⟩
    case measure=>simp[intOf];omega
   ·obtain⟨t1,t2,t3,f,h1,h2,h3,h4,HF⟩:∃ t1 t2 t3 f:bY,bits .and .u32 (nv yd) (nv yb)=nv t1∧bits .xor .u32 (if IntKind.u32.signed=true then -1 else IntKind.u32.max) (nv yd)=nv t2∧bits .and .u32 (nv t2) (nv yc)=nv t3∧bits .or .u32 (nv t1) (nv t3)=nv f∧Hid (f=C9 1 yb yc yd):=⟨_,_,_,_,qF _ _,vF _,qF _ _,xp _ _,rfl⟩
    have ew:IntKind.i64.wrap 1=1:=by rfl
    have eg:(5*(k:Int)+1) % 16=(gk:Int):=by have:(5*k+1) % 16=gk:=HGK.out;omega
    obtain⟨s1,s2,s3,h5,h6,h7,HS3⟩:∃ s1 s2 s3:bY,IntKind.u32.wrap (nv ya+nv f)=nv s1∧IntKind.u32.wrap (nv s1+nv tk)=nv s2∧IntKind.u32.wrap (nv s2+nv xk)=nv s3∧Hid (s3=ya+f+tk+xk):=⟨_,_,_,eI _ _,eI _ _,eI _ _,rfl⟩
    have h8:=oz yb (rl tur s3)
    go_upto_region 14 with(fail)
    go_quiet ((go_at_call 189;exact Calls.quiet_of_same (cW s3 tur HRR.out.2 HRR.out.1 _)))
    go_wp2_with fail
    go_roundw
    case rel=>exact⟨k+1,yd,yb+rl tur s3,yb,yc,by omega,by go_num,rfl,rfl,rfl,rfl,oh HS.out HQ.out HTU.out HTK.out (HGK.out ▸ HXK.out) HF.out HS3.out,fD HW.out _⟩
    case measure=>simp[intOf];omega
   ·obtain⟨t1,f,h1,h2,HF⟩:∃ t1 f:bY,bits .xor .u32 (nv yb) (nv yc)=nv t1∧bits .xor .u32 (nv t1) (nv yd)=nv f∧Hid (f=C9 2 yb yc yd):=⟨_,_,vE _ _,vE _ _,rfl⟩
    have ew:IntKind.i64.wrap 2=2:=by rfl
    have eg:(3*(k:Int)+5) % 16=(gk:Int):=by have:(3*k+5) % 16=gk:=HGK.out;omega
    obtain⟨s1,s2,s3,h5,h6,h7,HS3⟩:∃ s1 s2 s3:bY,IntKind.u32.wrap (nv ya+nv f)=nv s1∧IntKind.u32.wrap (nv s1+nv tk)=nv s2∧IntKind.u32.wrap (nv s2+nv xk)=nv s3∧Hid (s3=ya+f+tk+xk):=⟨_,_,_,eI _ _,eI _ _,eI _ _,rfl⟩
    have h8:=oz yb (rl tur s3)
    go_upto_region 14 with(fail)
    go_quiet ((go_at_call 189;exact Calls.quiet_of_same (cW s3 tur HRR.out.2 HRR.out.1 _)))
    go_wp2_with fail
    go_roundw
    case rel=>exact⟨k+1,yd,yb+rl tur s3,yb,yc,by omega,by go_num,rfl,rfl,rfl,rfl,oh HS.out HQ.out HTU.out HTK.out (HGK.out ▸ HXK.out) HF.out HS3.out,fD HW.out _⟩
    case measure=>simp[intOf];omega
   ·obtain⟨t1,t2,f,h1,h2,h3,HF⟩:∃ t1 t2 f:bY,bits .xor .u32 (if IntKind.u32.signed=true then -1 else IntKind.u32.max) (nv yd)=nv t1∧bits .or .u32 (nv yb) (nv t1)=nv t2∧bits .xor .u32 (nv yc) (nv t2)=nv f∧Hid (f=C9 3 yb yc yd):=⟨_,_,_,vF _,xp _ _,vE _ _,rfl⟩
    have ew:IntKind.i64.wrap 3=3:=by rfl
    have eg:(7*(k:Int)) % 16=(gk:Int):=by have:7*k % 16=gk:=HGK.out;omega
    obtain⟨s1,s2,s3,h5,h6,h7,HS3⟩:∃ s1 s2 s3:bY,IntKind.u32.wrap (nv ya+nv f)=nv s1∧IntKind.u32.wrap (nv s1+nv tk)=nv s2∧IntKind.u32.wrap (nv s2+nv xk)=nv s3∧Hid (s3=ya+f+tk+xk):=⟨_,_,_,eI _ _,eI _ _,eI _ _,rfl⟩
    have h8:=oz yb (rl tur s3)
    go_upto_region 14 with(fail)
    go_quiet ((go_at_call 189;exact Calls.quiet_of_same (cW s3 tur HRR.out.2 HRR.out.1 _)))
    go_wp2_with fail
    go_roundw
    case rel=>exact⟨k+1,yd,yb+rl tur s3,yb,yc,by omega,by go_num,rfl,rfl,rfl,rfl,oh HS.out HQ.out HTU.out HTK.out (HGK.out ▸ HXK.out) HF.out HS3.out,fD HW.out _⟩
    case measure=>simp[intOf];omega
  ·obtain rfl:k=64:=by omega
   have HB2:Hid (av wr hb (kv::vw a::vw b::vw c::vw d::rest)):=by obtain⟨n,hn⟩:=HW.out;rw[hn];exact HB.out.drewN n
   have hcp:∀ ty,(Builtin.copy_ #[143,143] ty #[.slice (some ⟨hb,1,none⟩) 8 8,.slice (some ⟨wr.heap.size,0,none⟩) 4 4]).run Tryz.prog (wr.alloc (.cells #[.int .u32 (nv ya),.int .u32 (nv yb),.int .u32 (nv yc),.int .u32 (nv yd)] 137))=.ok (.int .i64 (4:Nat)) ((wr.alloc (.cells #[.int .u32 (nv ya),.int .u32 (nv yb),.int .u32 (nv yc),.int .u32 (nv yd)] 137)).setCells hb 1 [vw ya,vw yb,vw yc,vw yd]):=fun ty=>
    iA (pre:=[kv]) (old:=[vw a,vw b,vw c,vw d]) (post:=rest) (HB2.out.alloc _) ty Tryz.underlying143 (by kernel_rfl) rfl [vw ya,vw yb,vw yc,vw yd] rfl rfl rfl (fun j v hj=>by
     rw[sN]
     exact(av.new wr [vw ya,vw yb,vw yc,vw yd] 137).cell j v hj) (by intro v hv;simp[vw] at hv;rcases hv with rfl | rfl | rfl | rfl<;>rfl)
   go_wp2_with (refine lp _ rfl _ _ 143 143 rfl _ _ rfl rfl hcp ?_)
   go_end0
   refine⟨rfl,?_,?_⟩
   ·rw[←HWS.out,HS.out]
    exact av.setN rest [vw ya,vw yb,vw yc,vw yd] [vw a,vw b,vw c,vw d] [kv] _ rfl (HB2.out.alloc _)
   ·exact dV _ _ _ _ (dG (by obtain⟨n,hn⟩:=HW.out;rw[hn];exact bO (bh (World.grownBy.refl w _) L1.out) n) _)
def E9 (kv:Value)(s:S5)(rest:LV):LV:=kv::vw s.a::vw s.b::vw s.c::vw s.d::vw s.e::rest
def jd (n:Nat)(l:List bY):LV:=l.map vw++List.replicate (n-l.length) (vw 0)
theorem jT {n:Nat}{l:List bY}(h:l.length≤n):(jd n l).length=n:=by simp[jd];omega
theorem sO (n:Nat){l:List bY}{i:Nat}(h:i<l.length):(jd n l)[i]?=some (vw (l.getD i 0)):=by
 unfold jd
 rw[List.getElem?_append_left (by simpa using h),List.getElem?_map,gG h,List.getD_eq_getElem?_getD,gG h]
 rfl
theorem sP {n:Nat}{l:List bY}(h:l.length<n):(jd n l)[l.length]?=some (vw 0):=by
 unfold jd
 rw[List.getElem?_append_right (by simp),List.length_map,Nat.sub_self,List.getElem?_replicate,if_pos (by omega)]
theorem sQ {n:Nat}{l:List bY}(h:l.length<n)(x:bY):(jd n l).set l.length (vw x)=jd n (l++[x]):=by
 unfold jd
 rw[List.set_append_right _ _ (by simp),List.length_map,Nat.sub_self,show n-l.length=(n-(l++[x]).length)+1 by simp;omega,List.replicate_succ]
 simp
theorem cl {n g:Nat}{a:World}:∀ (cs:LV)(o:Nat){w:World},Below n a w→n≤g→Below n a (w.setCells g o cs)
 | [],_,_,h,_=>h
 | c::r,o,_,h,hg=>cl r (o+1) (h.setCell (p:=⟨g,o,none⟩) hg c) hg
theorem vm {w W1:World}{hb N:Nat}{T:TypeId}{Z:Array Value}{ws:List bY}{hc:LV}(hZ:Z=(List.replicate N (vw 0)).toArray)(hN:16≤N)(L1:Below w.heap.size w W1)(S1:W1.heap.size=w.heap.size+1)(hw:ws.length=16)(X1:av W1 w.heap.size (ws.map vw))(HB:av W1 hb hc)(hl:hb<w.heap.size):
  ∃ W2,(∀ ty,(Builtin.copy_ #[143,143] ty #[.slice (some ⟨w.heap.size+1,0,none⟩) N N,.slice (some ⟨w.heap.size,0,none⟩) 16 16]).run Tryz.prog ((W1.alloc (.cells Z T)).drew)=.ok (.int .i64 (16:Nat)) W2)∧Hid (av W2 hb hc)∧Hid (av W2 (w.heap.size+1) (jd N ws))∧Hid (Below w.heap.size w W2):=by
 subst hZ
 have e16:(ws.map vw).length=16:=by rw[List.length_map];exact hw
 have hz:av ((W1.alloc (.cells (List.replicate N (vw 0)).toArray T)).drew) (w.heap.size+1) ([]++(List.replicate 16 (vw 0)++List.replicate (N-16) (vw 0))):=by
  rw[←S1,List.nil_append,List.replicate_append_replicate,show 16+(N-16)=N by omega]
  exact(av.new W1 (List.replicate N (vw 0)) T).drew
 refine⟨((W1.alloc (.cells (List.replicate N (vw 0)).toArray T)).drew).setCells (w.heap.size+1) 0 (ws.map vw),fun ty=>iA hz ty Tryz.underlying143 (by kernel_rfl) rfl (ws.map vw) (by rw[e16];exact(Nat.min_eq_left hN).symm) (by rw[e16];simp) e16 (fun j v hj=>by rw[sN];exact((X1.alloc _).drew).cell j v hj) (fun v hv=>by obtain⟨x,_,rfl⟩:=List.mem_map.1 hv;rfl),?_,?_,?_⟩
 ·exact av.belowN (wr:=(W1.alloc (.cells (List.replicate N (vw 0)).toArray T)).drew) ((HB.alloc _).drew) (n:=w.heap.size+1) (cl (ws.map vw) 0 bR lr) (by omega)
 ·have:=av.setN (List.replicate (N-16) (vw 0)) (ws.map vw) (List.replicate 16 (vw 0)) [] _ (by rw[e16];simp) hz
  simpa [Hid,jd,hw] using this
 ·exact cl (ws.map vw) 0 (aq (L1.alloc L1.size _) 1) (by omega)
theorem gU {wr:World}{b k m:Nat}{v u:Value}(h:wr.cell? ⟨b,m,none⟩=some u)(hne:¬ k=m):((wr.setCell ⟨b,k,none⟩ v).drew).cell? ⟨b,m,none⟩=some u:=by
 show(wr.setCell ⟨b,k,none⟩ v).cell? ⟨b,m,none⟩=some u
 rw[World.cell?_setCell_other _ _ _ _ (by intro h;injection h with _ h;exact hne h)]
 exact h
theorem gV {wr:World}{b k:Nat}{l:List bY}{N:Nat}(h:av wr b (jd N l))(hl:l.length=k)(q:Nat)(qi NI:Int)(hqi:qi=q)(hNI:NI=N)(hq:0<q)(hq2:q≤k)(hkN:k≤N)(hkM:k≤1000):
  ∃ m:Nat,(k:Int)-qi=(m:Int)∧IntKind.i64.wrap (m:Int)=(m:Int)∧(m:Int)<NI∧¬ k=m∧¬ m=k∧∃ x,Hid (l.getD (k-q) 0=x)∧wr.cell? ⟨b,m,none⟩=some (vw x):=by
 have e:(k:Int)-qi=((k-q:Nat):Int):=by omega
 refine⟨k-q,e,?_,by omega,by omega,by omega,_,rfl,?_⟩
 ·exact IntWalk.i64_in _ (by omega)
 ·exact h.cell _ _ (sO N (by omega))
theorem lO {ls:List bY}{s0:S5}{k q:Nat}{ya yb yc yd ye f x s:bY}(h:kh ls s0 k=⟨ya,yb,yc,yd,ye⟩)(hq:k / 20=q)(hx:ls.getD k 0=x)(hf:f=ut q yb yc yd)(hs:s=rl 5 ya+f+ye+lX q+x):
  kh ls s0 (k+1)=⟨s,ya,rl 30 yb,yc,yd⟩:=by
 rw[kh,h,xq,hq,hx,hs,hf]
theorem Fa (hb:Nat)(x0 x1 x2 x3 x4 x5 x6 x7 x8 x9 x10 x11 x12 x13 x14 x15 a b c d e0:bY)(kv:Value)(rest:LV)(w:World)
  (hB:av w hb (kv::vw a::vw b::vw c::vw d::vw e0::rest)):
  Calls Tryz.prog 139 #[.pointer (some ⟨hb,0,none⟩),.agg #[vw x0,vw x1,vw x2,vw x3,vw x4,vw x5,vw x6,vw x7,vw x8,vw x9,vw x10,vw x11,vw x12,vw x13,vw x14,vw x15]] w fun e w'=>e=.returned (.tuple #[]) ∧
   av w' hb (E9 kv (kh (po [x0,x1,x2,x3,x4,x5,x6,x7,x8,x9,x10,x11,x12,x13,x14,x15] 64) ⟨a,b,c,d,e0⟩ 80) rest)∧w.grownBy w' (some hb):=by
 obtain⟨ws,hws⟩:∃ ws,ws=[x0,x1,x2,x3,x4,x5,x6,x7,x8,x9,x10,x11,x12,x13,x14,x15]:=⟨_,rfl⟩
 have hwl:ws.length=16:=by rw[hws];rfl
 obtain⟨W1,hW1⟩:∃ W1,w.alloc (.cells #[vw x0,vw x1,vw x2,vw x3,vw x4,vw x5,vw x6,vw x7,vw x8,vw x9,vw x10,vw x11,vw x12,vw x13,vw x14,vw x15] 180)=W1:=⟨_,rfl⟩
 have L1:Hid (Below w.heap.size w W1):=by show Below _ _ _;rw[←hW1];exact bR.alloc lr _
 have X1:Hid (av W1 w.heap.size (ws.map vw)):=by show av _ _ _;rw[←hW1,hws];exact av.new w _ _
 have S1:W1.heap.size=w.heap.size+1:=by rw[←hW1];simp
 have HBL:Hid (hb<w.heap.size):=hB.sz
 have HB:=ae (hB.below L1.out)
 have HWS:=ae hws
 have HWL:=ae hwl
 clear hB hws hwl
 unfold vw at hW1 ⊢
 go_enter Tryz.func139,Tryz.ntmps139
 go_wp2_with fail
 obtain⟨W2,hcp,HB2,X2,L2⟩:=vm (Z:=Tryz.zeroCells240) (T:=240) (N:=80) (by kernel_rfl) (by decide) L1.out S1 HWL.out X1.out HB.out HBL.out
 clear S1
 go_region_law (refine ky rfl (.tmp 15) (.tmp 16) 143 143 rfl _ _ rfl rfl hcp ?_)
 clear hcp
 go_wp2_with fail
 go_loopw [5] (fun i wr=>∃ (k:Nat) (l:List bY),16≤k∧k≤80∧i=.int .i64 k∧Hid (l.length=k∧∃ n,k=16+n∧l=po ws n)∧Hid (av wr (w.heap.size+1) (jd 80 l))∧Hid (av wr hb (kv::vw a::vw b::vw c::vw d::vw e0::rest))∧Hid (Below w.heap.size w wr)) (fun i _=>80-(intOf i).toNat)
 case atStart=>exact⟨16,ws,by omega,by omega,rfl,⟨HWL.out,0,rfl,rfl⟩,X2,HB2,L2⟩
 case round=>
  obtain⟨k,l,hk16,hk,rfl,HL,HX,HH,HBel⟩:=hrel
  by_cases hlt:k<80
  ·obtain⟨m3,e3,i3,n3,ne3,nf3,z3,hz3,c3⟩:=gV HX.out HL.out.1 3 3 80 rfl rfl (by omega) (by omega) hk (by omega)
   obtain⟨m8,e8,i8,n8,ne8,nf8,z8,hz8,c8⟩:=gV HX.out HL.out.1 8 8 80 rfl rfl (by omega) (by omega) hk (by omega)
   obtain⟨m14,e14,i14,n14,ne14,nf14,z14,hz14,c14⟩:=gV HX.out HL.out.1 14 14 80 rfl rfl (by omega) (by omega) hk (by omega)
   obtain⟨m16,e16,i16,n16,ne16,nf16,z16,hz16,c16⟩:=gV HX.out HL.out.1 16 16 80 rfl rfl (by omega) (by omega) hk (by omega)
   have hki:(k:Int)<80:=by omega
   have ck:=HX.out.cell k _ (by have:=sP (n:=80) (l:=l) (by rw[HL.out.1];exact hlt);rwa [HL.out.1] at this)
   have fk:=HX.out.free k (by rw[jT (by rw[HL.out.1];omega)];exact hlt)
   obtain⟨t1,h1,H1⟩:=gg z3 z8
   obtain⟨t2,h2,H2⟩:=gg t1 z14
   obtain⟨t3,h3,H3⟩:=gg t2 z16
   have HT:Hid (rl 1 t3=Gb l k):=by show _=_;unfold Gb;rw[H3.out,H2.out,H1.out,hz3.out,hz8.out,hz14.out,hz16.out]
   have HX2:Hid (av (wr.setCell ⟨w.heap.size+1,k,none⟩ (vw (rl 1 t3))) (w.heap.size+1) (jd 80 (l++[rl 1 t3]))):=by
    have:=HX.out.set k (by rw[jT (by rw[HL.out.1];omega)];exact hlt) (vw (rl 1 t3))
    have e:=sQ (n:=80) (l:=l) (by rw[HL.out.1];exact hlt) (rl 1 t3)
    rw[HL.out.1] at e
    rw[e] at this
    exact this
   have HH2:Hid (av (wr.setCell ⟨w.heap.size+1,k,none⟩ (vw (rl 1 t3))) hb (kv::vw a::vw b::vw c::vw d::vw e0::rest)):=HH.out.far (by have:=HBL.out;omega) _
   have HB5:Hid (Below w.heap.size w (wr.setCell ⟨w.heap.size+1,k,none⟩ (vw (rl 1 t3)))):=ag HBel.out (by omega) _
   have HN:Hid ((l++[rl 1 t3]).length=k+1∧∃ n,k+1=16+n∧l++[rl 1 t3]=po ws n):=by
    obtain⟨h1,n,h2,h3⟩:=HL.out
    refine⟨by rw[List.length_append,h1];rfl,n+1,by omega,?_⟩
    rw[po,←h3,HT.out,h2]
   unfold vw at c3 c8 c14 c16 ck HX2 HH2 HB5
   have F3:=ae (gU (v:=.int .u32 (nv (rl 1 t3))) c3 ne3)
   have F8:=ae (gU (v:=.int .u32 (nv (rl 1 t3))) c8 ne8)
   have F14:=ae (gU (v:=.int .u32 (nv (rl 1 t3))) c14 ne14)
   have F16:=ae (gU (v:=.int .u32 (nv (rl 1 t3))) c16 ne16)
   go_wp2_with fail
   go_region_held3 (fun w'=>w'.cell? ⟨w.heap.size+1,m3,none⟩=some (.int .u32 (nv z3))∧w'.cell? ⟨w.heap.size+1,m8,none⟩=some (.int .u32 (nv z8))∧w'.cell? ⟨w.heap.size+1,m14,none⟩=some (.int .u32 (nv z14))∧w'.cell? ⟨w.heap.size+1,m16,none⟩=some (.int .u32 (nv z16)))
    (first | exact⟨c3,c8,c14,c16⟩ | exact⟨F3.out,F8.out,F14.out,F16.out⟩ | go_keep)
    ((go_at_call 189;refine(cW t3 1 (by decide) (by decide) _).mono ?_;rintro e w' ⟨rfl,rfl⟩))
   all_goals go_wp2_with fail
   all_goals go_roundw
   case rel=>exact⟨k+1,_,by omega,by omega,by go_num,HN,ae HX2.out.drew,ae HH2.out.drew,ae (aq HB5.out 1)⟩
   case measure=>simp[intOf];omega
  ·have HK8:Hid (k=80):=by show _=_;omega
   obtain⟨W3,hW3⟩:∃ W3,wr=W3:=⟨_,rfl⟩
   have HLS:Hid (l=po ws 64):=by
    obtain⟨_,n,h2,h3⟩:=HL.out
    have:n=64:=by have:=HK8.out;omega
    show _=_
    rw[h3,this]
   have LL:Hid (l.length=80):=HL.out.1.trans HK8.out
   have b1:=HH.out.cell 1 _ rfl
   have b2:=HH.out.cell 2 _ rfl
   have b3:=HH.out.cell 3 _ rfl
   have b4:=HH.out.cell 4 _ rfl
   have b5:=HH.out.cell 5 _ rfl
   unfold vw at b1 b2 b3 b4 b5
   rw[hW3] at b1 b2 b3 b4 b5 HX HH HBel ⊢
   clear hW3 HL X2 HB2 L2 HWL X1 HB
   go_wp2_with fail
   go_quiet (fail)
   go_wp2_with fail
   clear b1 b2 b3 b4 b5
   go_loopw [69,6,7,8,9,10] (fun i sa sb sc sd se wr=>∃ (k:Nat) (ya yb yc yd ye:bY),k≤80∧i=.int .i64 k∧sa=.int .u32 (nv ya)∧sb=.int .u32 (nv yb)∧sc=.int .u32 (nv yc)∧sd=.int .u32 (nv yd)∧se=.int .u32 (nv ye)∧Hid (kh l ⟨a,b,c,d,e0⟩ k=⟨ya,yb,yc,yd,ye⟩)∧Hid (∃ n,wr=W3.drewN n)) (fun i _ _ _ _ _ _=>80-(intOf i).toNat)
   case atStart=>exact⟨0,a,b,c,d,e0,by omega,rfl,rfl,rfl,rfl,rfl,rfl,rfl,_,rfl⟩
   case round=>
    obtain⟨k,ya,yb,yc,yd,ye,hk,rfl,rfl,rfl,rfl,rfl,rfl,HS,HW⟩:=hrel
    by_cases hlt:k<80
    ·obtain⟨xk,hxk⟩:∃ t,l.getD k 0=t:=⟨_,rfl⟩
     have xg:wr.cell? ⟨w.heap.size+1,k,none⟩=some (vw xk):=by obtain⟨n,hn⟩:=HW.out;rw[hn,←hxk];exact HX.out.cell k _ (sO 80 (by rw[LL.out];exact hlt))
     unfold vw at xg
     obtain⟨q,hq⟩:∃ q,k / 20=q:=⟨_,rfl⟩
     have e2:(k:Int) / 20=(q:Int):=by omega
     have hki:(k:Int)<80:=by omega
     have HQ:=ae hq;have HXK:=ae hxk
     have hq4:q<4:=by omega
     clear hq hxk
     rcases(show q=0∨q=1∨q=2∨q=3 by omega) with rfl | rfl | rfl | rfl
     ·obtain⟨t1,h1,H1⟩:=lW yb yc
      obtain⟨t2,h2,H2⟩:=Ku yb
      obtain⟨t3,h3,H3⟩:=lW t2 yd
      obtain⟨f,h4,H4⟩:=KW t1 t3
      have HF:Hid (f=ut 0 yb yc yd):=by show _=_;rw[H4.out,H3.out,H2.out,H1.out];rfl
      obtain⟨s1,g1,_,S1⟩:=gn (rl 5 ya) f
      obtain⟨s2,g2,_,S2⟩:=gn s1 ye
      obtain⟨s3,g3,_,S3⟩:=gn s2 (lX 0)
      have g3':IntKind.u32.wrap (nv s2+1518500249)=nv s3:=g3
      obtain⟨s4,g4,_,S4⟩:=gn s3 xk
      have HS4:Hid (s4=rl 5 ya+f+ye+lX 0+xk):=by show _=_;rw[S4.out,S3.out,S2.out,S1.out]
      clear g3
      go_upto_region 20 with(fail)
      go_quiet ((go_at_call 189;exact Calls.quiet_of_same (cW ya 5 (by decide) (by decide) _)))
      go_wp2_with fail
      refine(cW yb 30 (by decide) (by decide) _).mono ?_;rintro e w' ⟨rfl,rfl⟩
      go_wp2_with fail
      go_roundw
      case rel=>exact⟨k+1,s4,ya,rl 30 yb,yc,yd,by omega,by go_num,rfl,rfl,rfl,rfl,rfl,lO HS.out HQ.out HXK.out HF.out HS4.out,fD HW.out _⟩
      case measure=>simp[intOf];omega
     ·obtain⟨t1,h1,H1⟩:=gg yb yc
      obtain⟨f,h2,H2⟩:=gg t1 yd
      have HF:Hid (f=ut 1 yb yc yd):=by show _=_;rw[H2.out,H1.out];rfl
      obtain⟨s1,g1,_,S1⟩:=gn (rl 5 ya) f
      obtain⟨s2,g2,_,S2⟩:=gn s1 ye
      obtain⟨s3,g3,_,S3⟩:=gn s2 (lX 1)
      have g3':IntKind.u32.wrap (nv s2+1859775393)=nv s3:=g3
      obtain⟨s4,g4,_,S4⟩:=gn s3 xk
      have HS4:Hid (s4=rl 5 ya+f+ye+lX 1+xk):=by show _=_;rw[S4.out,S3.out,S2.out,S1.out]
      clear g3
      go_upto_region 20 with(fail)
      go_quiet ((go_at_call 189;exact Calls.quiet_of_same (cW ya 5 (by decide) (by decide) _)))
      go_wp2_with fail
      refine(cW yb 30 (by decide) (by decide) _).mono ?_;rintro e w' ⟨rfl,rfl⟩
      go_wp2_with fail
      go_roundw
      case rel=>exact⟨k+1,s4,ya,rl 30 yb,yc,yd,by omega,by go_num,rfl,rfl,rfl,rfl,rfl,lO HS.out HQ.out HXK.out HF.out HS4.out,fD HW.out _⟩
      case measure=>simp[intOf];omega
     ·obtain⟨t1,h1,H1⟩:=lW yb yc
      obtain⟨t2,h2,H2⟩:=lW yb yd
      obtain⟨t3,h3,H3⟩:=KW t1 t2
      obtain⟨t4,h4,H4⟩:=lW yc yd
      obtain⟨f,h5,H5⟩:=KW t3 t4
      have HF:Hid (f=ut 2 yb yc yd):=by show _=_;rw[H5.out,H4.out,H3.out,H2.out,H1.out];rfl
      obtain⟨s1,g1,_,S1⟩:=gn (rl 5 ya) f
      obtain⟨s2,g2,_,S2⟩:=gn s1 ye
      obtain⟨s3,g3,_,S3⟩:=gn s2 (lX 2)
      have g3':IntKind.u32.wrap (nv s2+2400959708)=nv s3:=g3
      obtain⟨s4,g4,_,S4⟩:=gn s3 xk
      have HS4:Hid (s4=rl 5 ya+f+ye+lX 2+xk):=by show _=_;rw[S4.out,S3.out,S2.out,S1.out]
      clear g3
      go_upto_region 20 with(fail)
      go_quiet ((go_at_call 189;exact Calls.quiet_of_same (cW ya 5 (by decide) (by decide) _)))
      go_wp2_with fail
      refine(cW yb 30 (by decide) (by decide) _).mono ?_;rintro e w' ⟨rfl,rfl⟩
      go_wp2_with fail
      go_roundw
      case rel=>exact⟨k+1,s4,ya,rl 30 yb,yc,yd,by omega,by go_num,rfl,rfl,rfl,rfl,rfl,lO HS.out HQ.out HXK.out HF.out HS4.out,fD HW.out _⟩
      case measure=>simp[intOf];omega
     ·obtain⟨t1,h1,H1⟩:=gg yb yc
      obtain⟨f,h2,H2⟩:=gg t1 yd
      have HF:Hid (f=ut 3 yb yc yd):=by show _=_;rw[H2.out,H1.out];rfl
      obtain⟨s1,g1,_,S1⟩:=gn (rl 5 ya) f
      obtain⟨s2,g2,_,S2⟩:=gn s1 ye
      obtain⟨s3,g3,_,S3⟩:=gn s2 (lX 3)
      have g3':IntKind.u32.wrap (nv s2+3395469782)=nv s3:=g3
      obtain⟨s4,g4,_,S4⟩:=gn s3 xk
      have HS4:Hid (s4=rl 5 ya+f+ye+lX 3+xk):=by show _=_;rw[S4.out,S3.out,S2.out,S1.out]
      clear g3
      go_upto_region 20 with(fail)
      go_quiet ((go_at_call 189;exact Calls.quiet_of_same (cW ya 5 (by decide) (by decide) _)))
      go_wp2_with fail
      refine(cW yb 30 (by decide) (by decide) _).mono ?_;rintro e w' ⟨rfl,rfl⟩
      go_wp2_with fail
      go_roundw
      case rel=>exact⟨k+1,s4,ya,rl 30 yb,yc,yd,by omega,by go_num,rfl,rfl,rfl,rfl,rfl,lO HS.out HQ.out HXK.out HF.out HS4.out,fD HW.out _⟩
      case measure=>simp[intOf];omega
    ·obtain rfl:k=80:=by omega
     have HH3:Hid (av wr hb (kv::vw a::vw b::vw c::vw d::vw e0::rest)):=by obtain⟨n,hn⟩:=HW.out;rw[hn];exact HH.out.drewN n
     have hcp:∀ ty,(Builtin.copy_ #[143,143] ty #[.slice (some ⟨hb,1,none⟩) 8 8,.slice (some ⟨wr.heap.size,0,none⟩) 5 5]).run Tryz.prog (wr.alloc (.cells #[.int .u32 (nv ya),.int .u32 (nv yb),.int .u32 (nv yc),.int .u32 (nv yd),.int .u32 (nv ye)] 137))=.ok (.int .i64 (5:Nat)) ((wr.alloc (.cells #[.int .u32 (nv ya),.int .u32 (nv yb),.int .u32 (nv yc),.int .u32 (nv yd),.int .u32 (nv ye)] 137)).setCells hb 1 [vw ya,vw yb,vw yc,vw yd,vw ye]):=fun ty=>
      iA (pre:=[kv]) (old:=[vw a,vw b,vw c,vw d,vw e0]) (post:=rest) (HH3.out.alloc _) ty Tryz.underlying143 (by kernel_rfl) rfl [vw ya,vw yb,vw yc,vw yd,vw ye] rfl rfl rfl (fun j v hj=>by
       rw[sN]
       exact(av.new wr [vw ya,vw yb,vw yc,vw yd,vw ye] 137).cell j v hj) (by intro v hv;simp[vw] at hv;rcases hv with rfl | rfl | rfl | rfl | rfl<;>rfl)
     go_wp2_with (refine lp _ rfl _ _ 143 143 rfl _ _ rfl rfl hcp ?_)
     go_end0
     refine⟨rfl,?_,?_⟩
     ·rw[←HWS.out,←HLS.out,HS.out]
      exact av.setN rest [vw ya,vw yb,vw yc,vw yd,vw ye] [vw a,vw b,vw c,vw d,vw e0] [kv] _ rfl (HH3.out.alloc _)
     ·exact dV _ _ _ _ (dG (by obtain⟨n,hn⟩:=HW.out;rw[hn];exact bO (bh (World.grownBy.refl w _) HBel.out) n) _)
def If (kv:Value)(s:S8)(rest:LV):LV:=kv::vw s.a::vw s.b::vw s.c::vw s.d::vw s.e::vw s.f::vw s.g::vw s.h::rest
theorem pd {f:FuncId}{args:Array Value}{w:World}{n m:Nat}{v:Value}(h:Calls Tryz.prog f args (w.drewN (n+m)) fun e w'=>e=.returned v∧w'=w.drewN (n+m)):
  Calls Tryz.prog f args (w.drewN (n+m)) fun e w''=>e=.returned v∧∃ k,w''=(w.drewN n).drewN k:=h.mono fun _ _ ⟨he,hm⟩=>⟨he,m,hm.trans (World.drewN_drewN _ _ _).symm⟩
theorem mV {f:FuncId}{args:Array Value}{w:World}{n m:Nat}{v:Value}(h:Calls Tryz.prog f args (w.drewN (n+m)) fun e w'=>e=.returned v∧w'=w.drewN (n+m)):
  Calls Tryz.prog f args (w.drewN (n+m)) fun e w''=>e=.returned v∧∃ k,w''=w.drewN (n+k):=h.mono fun _ _ ⟨he,hm⟩=>⟨he,m,hm⟩
theorem KK (x:bY)(k:Nat):∃ z,nv x / 2 ^ k=nv z∧Hid (z=x >>> k):=⟨_,FZ x k,rfl⟩
theorem ze (hb:Nat)(x0 x1 x2 x3 x4 x5 x6 x7 x8 x9 x10 x11 x12 x13 x14 x15 a b c d e0 f0 g0 h0:bY)(kv:Value)(rest:LV)(w:World)(hG:qj w)
  (hB:av w hb (kv::vw a::vw b::vw c::vw d::vw e0::vw f0::vw g0::vw h0::rest)):
  Calls Tryz.prog 140 #[.pointer (some ⟨hb,0,none⟩),.agg #[vw x0,vw x1,vw x2,vw x3,vw x4,vw x5,vw x6,vw x7,vw x8,vw x9,vw x10,vw x11,vw x12,vw x13,vw x14,vw x15]] w fun e w'=>e=.returned (.tuple #[]) ∧
   av w' hb (If kv (oA (xt [x0,x1,x2,x3,x4,x5,x6,x7,x8,x9,x10,x11,x12,x13,x14,x15] 48) ⟨a,b,c,d,e0,f0,g0,h0⟩ 64) rest)∧w.grownBy w' (some hb):=by
 obtain⟨ws,hws⟩:∃ ws,ws=[x0,x1,x2,x3,x4,x5,x6,x7,x8,x9,x10,x11,x12,x13,x14,x15]:=⟨_,rfl⟩
 have hwl:ws.length=16:=by rw[hws];rfl
 obtain⟨W1,hW1⟩:∃ W1,w.alloc (.cells #[vw x0,vw x1,vw x2,vw x3,vw x4,vw x5,vw x6,vw x7,vw x8,vw x9,vw x10,vw x11,vw x12,vw x13,vw x14,vw x15] 180)=W1:=⟨_,rfl⟩
 have L1:Hid (Below w.heap.size w W1):=by show Below _ _ _;rw[←hW1];exact bR.alloc lr _
 have X1:Hid (av W1 w.heap.size (ws.map vw)):=by show av _ _ _;rw[←hW1,hws];exact av.new w _ _
 have S1:W1.heap.size=w.heap.size+1:=by rw[←hW1];simp
 have HBL:Hid (hb<w.heap.size):=hB.sz
 have HB:=ae (hB.below L1.out)
 have HG:=ae hG
 have HWS:=ae hws
 have HWL:=ae hwl
 clear hB hws hwl hG
 unfold vw at hW1 ⊢
 go_enter Tryz.func140,Tryz.ntmps140
 go_wp2_with fail
 clear hW1
 obtain⟨W2,hcp,HB2,X2,L2⟩:=vm (Z:=(List.replicate 64 (Value.int .u32 0)).toArray) (T:=237) (N:=64) (by kernel_rfl) (by decide) L1.out S1 HWL.out X1.out HB.out HBL.out
 clear S1
 go_region_law (refine ky rfl (.tmp 20) (.tmp 21) 143 143 rfl _ _ rfl rfl hcp ?_)
 clear hcp
 go_wp2_with fail
 go_loopw [5] (fun i wr=>∃ (k:Nat) (l:List bY),16≤k∧k≤64∧i=.int .i64 k∧Hid (l.length=k∧∃ n,k=16+n∧l=xt ws n)∧Hid (av wr (w.heap.size+1) (jd 64 l))∧Hid (av wr hb (kv::vw a::vw b::vw c::vw d::vw e0::vw f0::vw g0::vw h0::rest))∧Hid (Below w.heap.size w wr)) (fun i _=>64-(intOf i).toNat)
 case atStart=>exact⟨16,ws,by omega,by omega,rfl,⟨HWL.out,0,rfl,rfl⟩,X2,HB2,L2⟩
 case round=>
  obtain⟨k,l,hk16,hk,rfl,HL,HX,HH,HBel⟩:=hrel
  by_cases hlt:k<64
  ·obtain⟨m15,e15,i15,n15,ne15,nf15,z15,hz15,c15⟩:=gV HX.out HL.out.1 15 15 64 rfl rfl (by omega) (by omega) hk (by omega)
   obtain⟨m2,e2,i2,n2,ne2,nf2,z2,hz2,c2⟩:=gV HX.out HL.out.1 2 2 64 rfl rfl (by omega) (by omega) hk (by omega)
   obtain⟨m7,e7,i7,n7,ne7,nf7,z7,hz7,c7⟩:=gV HX.out HL.out.1 7 7 64 rfl rfl (by omega) (by omega) hk (by omega)
   obtain⟨m16,e16,i16,n16,ne16,nf16,z16,hz16,c16⟩:=gV HX.out HL.out.1 16 16 64 rfl rfl (by omega) (by omega) hk (by omega)
   have hki:(k:Int)<64:=by omega
   have ck:=HX.out.cell k _ (by have:=sP (n:=64) (l:=l) (by rw[HL.out.1];exact hlt);rwa [HL.out.1] at this)
   have fk:=HX.out.free k (by rw[jT (by rw[HL.out.1];omega)];exact hlt)
   obtain⟨a1,h1,H1⟩:=gg (rr 7 z15) (rr 18 z15)
   obtain⟨a2,h2,H2⟩:=KK z15 3
   obtain⟨a3,h3,H3⟩:=gg a1 a2
   obtain⟨b1,h4,H4⟩:=gg (rr 17 z2) (rr 19 z2)
   obtain⟨b2,h5,H5⟩:=KK z2 10
   obtain⟨b3,h6,H6⟩:=gg b1 b2
   obtain⟨s1,g1,_,S1⟩:=gn z16 a3
   obtain⟨s2,g2,_,S2⟩:=gn s1 z7
   obtain⟨s3,g3,_,S3⟩:=gn s2 b3
   have h2':nv z15 / 8=nv a2:=by simpa using h2
   have h5':nv z2 / 1024=nv b2:=by simpa using h5
   have HT:Hid (s3=KY l k):=by show _=_;unfold KY Kv Kx;rw[S3.out,S2.out,S1.out,H6.out,H5.out,H4.out,H3.out,H2.out,H1.out,hz15.out,hz2.out,hz7.out,hz16.out]
   have HX2:Hid (∀ n,av ((wr.drewN n).setCell ⟨w.heap.size+1,k,none⟩ (vw s3)) (w.heap.size+1) (jd 64 (l++[s3]))):=by
    show ∀ _,_
    intro n
    have:=(HX.out.drewN n).set k (by rw[jT (by rw[HL.out.1];omega)];exact hlt) (vw s3)
    have e:=sQ (n:=64) (l:=l) (by rw[HL.out.1];exact hlt) s3
    rw[HL.out.1] at e
    rw[e] at this
    exact this
   have HH2:Hid (∀ n,av ((wr.drewN n).setCell ⟨w.heap.size+1,k,none⟩ (vw s3)) hb (kv::vw a::vw b::vw c::vw d::vw e0::vw f0::vw g0::vw h0::rest)):=fun n=>(HH.out.drewN n).far (by have:=HBL.out;omega) _
   have HB5:Hid (∀ n,Below w.heap.size w ((wr.drewN n).setCell ⟨w.heap.size+1,k,none⟩ (vw s3))):=fun n=>ag (aq HBel.out n) (by omega) _
   have HN:Hid ((l++[s3]).length=k+1∧∃ n,k+1=16+n∧l++[s3]=xt ws n):=by
    obtain⟨h1,n,h2,h3⟩:=HL.out
    refine⟨by rw[List.length_append,h1];rfl,n+1,by omega,?_⟩
    rw[xt,←h3,HT.out,h2]
   unfold vw at c15 c2 c7 c16 ck
   clear h2 h5
   go_wp2_with fail
   go_quiet (fail)
   go_wp2_with fail
   refine(bi z15 7 (by decide) (by decide) _).mono ?_;rintro e w' ⟨rfl,rfl⟩
   go_wp2_with fail
   refine(bi z15 18 (by decide) (by decide) _).mono ?_;rintro e w' ⟨rfl,rfl⟩
   go_wp2_with fail
   refine(bi z2 17 (by decide) (by decide) _).mono ?_;rintro e w' ⟨rfl,rfl⟩
   go_wp2_with fail
   refine(bi z2 19 (by decide) (by decide) _).mono ?_;rintro e w' ⟨rfl,rfl⟩
   go_wp2_with fail
   go_region_held3 (fun w'=>w'.cell? ⟨w.heap.size+1,m16,none⟩=some (.int .u32 (nv z16))∧w'.cell? ⟨w.heap.size+1,m7,none⟩=some (.int .u32 (nv z7)))
    (first | exact⟨c16,c7⟩ | exact⟨gU c16 ne16,gU c7 ne7⟩ | exact⟨gU (wr:=World.drewN wr _) c16 ne16,gU (wr:=World.drewN wr _) c7 ne7⟩ | go_keep)
    (fail)
   all_goals go_wp2_with fail
   all_goals go_roundw
   case rel=>exact⟨k+1,_,by omega,by omega,by go_num,HN,ae (HX2.out _),ae (HH2.out _),ae (HB5.out _)⟩
   case measure=>simp[intOf];omega
  ·have HK8:Hid (k=64):=by show _=_;omega
   obtain⟨W3,hW3⟩:∃ W3,wr=W3:=⟨_,rfl⟩
   have HLS:Hid (l=xt ws 48):=by
    obtain⟨_,n,h2,h3⟩:=HL.out
    have:n=48:=by have:=HK8.out;omega
    show _=_
    rw[h3,this]
   have LL:Hid (l.length=64):=HL.out.1.trans HK8.out
   have b1:=HH.out.cell 1 _ rfl
   have b2:=HH.out.cell 2 _ rfl
   have b3:=HH.out.cell 3 _ rfl
   have b4:=HH.out.cell 4 _ rfl
   have b5:=HH.out.cell 5 _ rfl
   have b6:=HH.out.cell 6 _ rfl
   have b7:=HH.out.cell 7 _ rfl
   have b8:=HH.out.cell 8 _ rfl
   unfold vw at b1 b2 b3 b4 b5 b6 b7 b8
   rw[hW3] at b1 b2 b3 b4 b5 b6 b7 b8 HX HH HBel ⊢
   clear hW3 HL X2 HB2 L2 HWL X1 HB
   go_wp2_with fail
   clear b1 b2 b3 b4 b5 b6 b7 b8
   have hS0:w.heap.size+1<W3.heap.size:=HX.out.sz
   go_loopw [70] (fun i wr=>∃ (k:Nat) (ya yb yc yd ye yf yg yh:bY),k≤64∧i=.int .i64 k∧Hid (oA l ⟨a,b,c,d,e0,f0,g0,h0⟩ k=⟨ya,yb,yc,yd,ye,yf,yg,yh⟩)∧Hid (av wr W3.heap.size [vw ya,vw yb,vw yc,vw yd,vw ye,vw yf,vw yg,vw yh])∧Hid (av wr (w.heap.size+1) (jd 64 l))∧Hid (av wr hb (kv::vw a::vw b::vw c::vw d::vw e0::vw f0::vw g0::vw h0::rest))∧Hid (Below w.heap.size w wr)) (fun i _=>64-(intOf i).toNat)
   case atStart=>exact⟨0,a,b,c,d,e0,f0,g0,h0,by omega,rfl,rfl,av.new W3 [vw a,vw b,vw c,vw d,vw e0,vw f0,vw g0,vw h0] _,HX.out.alloc _,HH.out.alloc _,HBel.out.alloc HBel.out.size _⟩
   case round=>
    obtain⟨k,ya,yb,yc,yd,ye,yf,yg,yh,hk,rfl,HS,HV,HXr,HHr,HBr⟩:=hrel
    have c0:=HV.out.cell 0 _ rfl
    have c1:=HV.out.cell 1 _ rfl
    have c2:=HV.out.cell 2 _ rfl
    have c3:=HV.out.cell 3 _ rfl
    have c4:=HV.out.cell 4 _ rfl
    have c5:=HV.out.cell 5 _ rfl
    have c6:=HV.out.cell 6 _ rfl
    have c7:=HV.out.cell 7 _ rfl
    by_cases hlt:k<64
    ·obtain⟨xk,hxk⟩:∃ t,l.getD k 0=t:=⟨_,rfl⟩
     have xg:=HXr.out.cell k _ (sO 64 (by rw[LL.out];exact hlt))
     rw[hxk] at xg
     have tg:=(HG.out.below HBr.out).ts k hlt
     obtain⟨tk,htk⟩:∃ t,KX k=t:=⟨_,rfl⟩
     rw[htk] at tg
     have hki:(k:Int)<64:=by omega
     have fz0:=HV.out.free 0 (by simp)
     have fz1:=HV.out.free 1 (by simp)
     have fz2:=HV.out.free 2 (by simp)
     have fz3:=HV.out.free 3 (by simp)
     have fz4:=HV.out.free 4 (by simp)
     have fz5:=HV.out.free 5 (by simp)
     have fz6:=HV.out.free 6 (by simp)
     have fz7:=HV.out.free 7 (by simp)
     obtain⟨p1,h1,H1⟩:=gg (rr 6 ye) (rr 11 ye)
     obtain⟨p2,h2,H2⟩:=gg p1 (rr 25 ye)
     obtain⟨p3,h3,_,H3⟩:=gn yh p2
     obtain⟨p4,h4,H4⟩:=lW ye yf
     obtain⟨p5,h5,H5⟩:=Ku ye
     obtain⟨p6,h6,H6⟩:=lW p5 yg
     obtain⟨p7,h7,H7⟩:=gg p4 p6
     obtain⟨p8,h8,_,HA8⟩:=gn p3 p7
     obtain⟨p9,h9,_,H9⟩:=gn p8 tk
     obtain⟨t1,h10,_,H10⟩:=gn p9 xk
     have HT1:Hid (t1=vG l k ⟨ya,yb,yc,yd,ye,yf,yg,yh⟩):=by show _=_;unfold vG;rw[H10.out,H9.out,HA8.out,H7.out,H6.out,H5.out,H4.out,H3.out,H2.out,H1.out,hxk,htk]
     obtain⟨q1,j1,J1⟩:=gg (rr 2 ya) (rr 13 ya)
     obtain⟨q2,j2,J2⟩:=gg q1 (rr 22 ya)
     obtain⟨q3,j3,J3⟩:=lW ya yb
     obtain⟨q4,j4,J4⟩:=lW ya yc
     obtain⟨q5,j5,J5⟩:=gg q3 q4
     obtain⟨q6,j6,J6⟩:=lW yb yc
     obtain⟨q7,j7,J7⟩:=gg q5 q6
     obtain⟨t2,_,j8,J8⟩:=gn q2 q7
     have HT2:Hid (t2=zI ⟨ya,yb,yc,yd,ye,yf,yg,yh⟩):=by show _=_;unfold zI;rw[J8.out,J7.out,J6.out,J5.out,J4.out,J3.out,J2.out,J1.out]
     obtain⟨na,_,j9,J9⟩:=gn t1 t2
     obtain⟨nE,_,j10,J10⟩:=gn yd t1
     have HN:Hid (oA l ⟨a,b,c,d,e0,f0,g0,h0⟩ (k+1)=⟨na,ya,yb,yc,nE,ye,yf,yg⟩):=by show _=_;rw[oA,HS.out,Cf,J9.out,J10.out,HT1.out,HT2.out]
     have HVN:Hid (∀ n,av ((wr.drewN n).setCells W3.heap.size 0 [vw na,vw ya,vw yb,vw yc,vw nE,vw ye,vw yf,vw yg]) W3.heap.size [vw na,vw ya,vw yb,vw yc,vw nE,vw ye,vw yf,vw yg]):=fun n=>by
      have:=av.setN [] [vw na,vw ya,vw yb,vw yc,vw nE,vw ye,vw yf,vw yg] [vw ya,vw yb,vw yc,vw yd,vw ye,vw yf,vw yg,vw yh] [] (wr.drewN n) rfl (by simpa using HV.out.drewN n)
      simpa using this
     have HXN:Hid (∀ n,av ((wr.drewN n).setCells W3.heap.size 0 [vw na,vw ya,vw yb,vw yc,vw nE,vw ye,vw yf,vw yg]) (w.heap.size+1) (jd 64 l)):=fun n=>(HXr.out.drewN n).belowN (n:=W3.heap.size) (cl [vw na,vw ya,vw yb,vw yc,vw nE,vw ye,vw yf,vw yg] 0 bR lr) hS0
     have HHN:Hid (∀ n,av ((wr.drewN n).setCells W3.heap.size 0 [vw na,vw ya,vw yb,vw yc,vw nE,vw ye,vw yf,vw yg]) hb (kv::vw a::vw b::vw c::vw d::vw e0::vw f0::vw g0::vw h0::rest)):=fun n=>(HHr.out.drewN n).belowN (n:=W3.heap.size) (cl [vw na,vw ya,vw yb,vw yc,vw nE,vw ye,vw yf,vw yg] 0 bR lr) (by have:=HBL.out;omega)
     have HBN:Hid (∀ n,Below w.heap.size w ((wr.drewN n).setCells W3.heap.size 0 [vw na,vw ya,vw yb,vw yc,vw nE,vw ye,vw yf,vw yg])):=fun n=>cl [vw na,vw ya,vw yb,vw yc,vw nE,vw ye,vw yf,vw yg] 0 (aq HBr.out n) (by omega)
     unfold vw at xg c0 c1 c2 c3 c4 c5 c6 c7
     clear hxk htk
     go_upto_region 14 with(fail)
     go_quiet (fail)
     go_upto_region 15 with(fail)
     go_quiet (first
      | (go_at_call 190;exact pd (bi ye 6 (by decide) (by decide) _))
      | (go_at_call 190;exact mV (bi ye 6 (by decide) (by decide) _))
      | (go_at_call 190;exact Calls.quiet_of_same (bi ye 6 (by decide) (by decide) _))
      | (go_at_call 190;exact pd (bi ye 11 (by decide) (by decide) _))
      | (go_at_call 190;exact mV (bi ye 11 (by decide) (by decide) _))
      | (go_at_call 190;exact Calls.quiet_of_same (bi ye 11 (by decide) (by decide) _))
      | (go_at_call 190;exact pd (bi ye 25 (by decide) (by decide) _))
      | (go_at_call 190;exact mV (bi ye 25 (by decide) (by decide) _))
      | (go_at_call 190;exact Calls.quiet_of_same (bi ye 25 (by decide) (by decide) _)))
     go_wp2_with fail
     refine(bi ya 2 (by decide) (by decide) _).mono ?_;rintro e w' ⟨rfl,rfl⟩
     go_wp2_with fail
     refine(bi ya 13 (by decide) (by decide) _).mono ?_;rintro e w' ⟨rfl,rfl⟩
     go_wp2_with fail
     refine(bi ya 22 (by decide) (by decide) _).mono ?_;rintro e w' ⟨rfl,rfl⟩
     go_wp2_with fail
     go_roundw
     case rel=>exact⟨k+1,na,ya,yb,yc,nE,ye,yf,yg,by omega,by go_num,HN,ae (HVN.out _),ae (HXN.out _),ae (HHN.out _),ae (HBN.out _)⟩
     case measure=>simp[intOf];omega
    ·have HK9:Hid (k=64):=by show _=_;omega
     have d1:=HHr.out.cell 1 _ rfl
     have d2:=HHr.out.cell 2 _ rfl
     have d3:=HHr.out.cell 3 _ rfl
     have d4:=HHr.out.cell 4 _ rfl
     have d5:=HHr.out.cell 5 _ rfl
     have d6:=HHr.out.cell 6 _ rfl
     have d7:=HHr.out.cell 7 _ rfl
     have d8:=HHr.out.cell 8 _ rfl
     have fz1:=HHr.out.free 1 (by simp)
     have fz2:=HHr.out.free 2 (by simp)
     have fz3:=HHr.out.free 3 (by simp)
     have fz4:=HHr.out.free 4 (by simp)
     have fz5:=HHr.out.free 5 (by simp)
     have fz6:=HHr.out.free 6 (by simp)
     have fz7:=HHr.out.free 7 (by simp)
     have fz8:=HHr.out.free 8 (by simp)
     unfold vw at c0 c1 c2 c3 c4 c5 c6 c7 d1 d2 d3 d4 d5 d6 d7 d8
     go_wp2_with fail
     go_end0
     refine⟨rfl,?_,?_⟩
     ·rw[←HWS.out,←HLS.out,←HK9.out,HS.out]
      exact av.setN rest [vw ya,vw yb,vw yc,vw yd,vw ye,vw yf,vw yg,vw yh] [vw a,vw b,vw c,vw d,vw e0,vw f0,vw g0,vw h0] [kv] wr rfl HHr.out
     ·exact dV [vw ya,vw yb,vw yc,vw yd,vw ye,vw yf,vw yg,vw yh] 1 _ _ (bh (World.grownBy.refl w _) HBr.out)
theorem ft {w:World}{A:OA}{n:Nat}{l:LU}(h:Rd w 1 A n (l.map vb)):l.length=n:=by have:=h.1;simpa using this
theorem vo {l:LU}{j:Nat}{c:UInt8}(h:l[j]?=some c):l.take (j+1)=l.take j++[c]:=by
 rw[List.take_add_one,h];rfl
theorem Fb {l:LU}{j:Nat}(hj:j<8):vl (l.take j)≤72057594037927935:=by
 have h:=Bm (l.take j)
 have h2:256 ^ (l.take j).length≤256 ^ 7:=Nat.pow_le_pow_right (by decide) (by rw[List.length_take];omega)
 have:(256:Nat) ^ 7=72057594037927936:=by decide
 omega
theorem Fc {l:LU}{j:Nat}(hj:j<8):FU (l.take j)≤72057594037927935:=by
 have h:=Bn (l.take j)
 have h2:256 ^ (l.take j).length≤256 ^ 7:=Nat.pow_le_pow_right (by decide) (by rw[List.length_take];omega)
 have:(256:Nat) ^ 7=72057594037927936:=by decide
 omega
theorem ME (x c:Nat)(hx:x≤72057594037927935)(hc:c<256):bits .or .u64 ((x:Int)*256) (c:Int)=((x*256+c:Nat):Int):=by
 have h:=bits_or_u64_nat (x*256) c (by omega) (by omega)
 rw[show x*256 ||| c=x*256+c from Ig 8 hc] at h
 rw[←h];simp
theorem Ih (ch:UInt8){j s:Nat}(hj:j<8)(hp:256 ^ j=2 ^ s):((ch.toNat:Int)*2 ^ s) % 18446744073709551616=((ch.toNat*256 ^ j:Nat):Int):=by
 have h1:ch.toNat*256 ^ j<256*256 ^ j:=Nat.mul_lt_mul_of_pos_right ch.toNat_lt (Nat.pow_pos (by decide))
 have h2:256*256 ^ j≤256 ^ 8:=by rw[Nat.mul_comm,←Nat.pow_succ];exact Nat.pow_le_pow_right (by decide) (by omega)
 have h3:(256:Nat) ^ 8=18446744073709551616:=by decide
 have h4:((ch.toNat:Int)*2 ^ s)=((ch.toNat*256 ^ j:Nat):Int):=by rw[hp];simp
 rw[h4]
 omega
theorem MF {x j s:Nat}(ch:UInt8)(hx:x<256 ^ j)(hj:j<8)(hp:256 ^ j=2 ^ s):bits .or .u64 (x:Int) ((ch.toNat*256 ^ j:Nat):Int)=((x+ch.toNat*256 ^ j:Nat):Int):=by
 have h1:ch.toNat*256 ^ j<256*256 ^ j:=Nat.mul_lt_mul_of_pos_right ch.toNat_lt (Nat.pow_pos (by decide))
 have h2:256*256 ^ j≤256 ^ 8:=by rw[Nat.mul_comm,←Nat.pow_succ];exact Nat.pow_le_pow_right (by decide) (by omega)
 have h3:(256:Nat) ^ 8=18446744073709551616:=by decide
 have h5:256 ^ j≤256 ^ 8:=Nat.pow_le_pow_right (by decide) (by omega)
 rw[bits_or_u64_nat x (ch.toNat*256 ^ j) (by omega) (by omega)]
 have:=Ig (x:=ch.toNat) s (show x<2 ^ s by rw[←hp];exact hx)
 rw[Nat.or_comm,hp,this,Nat.add_comm]
theorem zf (A:OA)(n c i k:Nat)(l:LU)(w:World)(hr:Rd w 1 A n (l.map vb))(hk:1≤k)(hk8:k≤8)(hi:i+k≤n)(hc:n≤c)(hc2:c≤4611686018427387904):
  Calls Tryz.prog 136 #[.slice A n c,.int .i64 i,.int .i64 k] w fun e w'=>e=.returned (.tuple #[.int .u64 (vl ((l.drop i).take k)),.bool true])∧w'=w:=by
 have hl:=ft hr
 obtain⟨jk,hjk⟩:∃ jk,i+k=jk:=⟨_,rfl⟩
 have hsl:=fun W=>vn (T:=33) (E:=5) (sz:=1) Tryz.underlying33 rfl Tryz.sizeOf5 (A:=A) (n:=n) (c:=c) (i:=i) (j:=jk) (by omega) (by omega) W
 have R2:=hr.cut (i:=i) (j:=jk) (c:=c) (by omega) (by omega) hc
 obtain⟨A2,hA2⟩:∃ A2,(if c=i then A else A.map (·.add (i*1)))=A2:=⟨_,rfl⟩
 rw[hA2,show jk-i=k by omega] at hsl R2
 rw[←List.map_drop,←List.map_take] at R2
 obtain⟨l2,hl2⟩:∃ l2,(l.drop i).take k=l2:=⟨_,rfl⟩
 rw[hl2] at R2 ⊢
 have hl2l:=ft R2
 have hci:((i:Int)+(k:Int))=(jk:Int):=by omega
 have d1:decide ((k:Int)<1)=false:=dF (by omega)
 have d2:decide ((8:Int)<(k:Int))=false:=dF (by omega)
 have d3:decide ((i:Int)<0)=false:=dF (by omega)
 have d4:decide ((n:Int)-(k:Int)<(i:Int))=false:=dF (by omega)
 have HR:=ae R2
 have HL:=ae hl2l
 clear hr hl hA2 R2 hl2 hl2l hjk
 go_enter Tryz.func136,Tryz.ntmps136
 go_wp2_with fail
 go_loop [36,8] (fun s36 s8=>∃ (j x:Nat),j≤k∧s36=.int .i64 j∧s8=.int .u64 x∧Hid (x=vl (l2.take j))) (fun s36 _=>k-(intOf s36).toNat)
 case atStart=>exact⟨0,0,z0,rfl,rfl,rfl⟩
 case round=>
  obtain⟨j,x,hj,rfl,rfl,HX⟩:=hrel
  by_cases hlt:j<k
  ·obtain⟨ch,hch⟩:∃ ch,l2[j]?=some ch:=⟨_,gG (by rw[HL.out];exact hlt)⟩
   obtain⟨b,off,hA,he⟩:=HR.out.2 (by omega)
   have e0:=he j (vb ch) (by rw[List.getElem?_map,hch];rfl)
   have hix:=fun W=>aH (T:=33) (E:=5) (sz:=1) (c:=c-i) Tryz.underlying33 rfl Tryz.sizeOf5 hA hlt W
   have hxs:x≤72057594037927935:=by rw[HX.out];exact Fb (by omega)
   have hor:=ME x ch.toNat hxs ch.toNat_lt
   have hct:=ch.toNat_lt
   have HN:Hid (x*256+ch.toNat=vl (l2.take (j+1))):=by show _=_;rw[vo hch,Ib,HX.out]
   unfold vb at e0
   clear he hA hch HX
   go_wp2_with fail
   go_round
   case rel=>exact⟨j+1,_,by omega,by go_num,rfl,HN⟩
   case measure=>simp[intOf];omega
  ·go_wp2_with fail
   go_ret2
   exact⟨by rw[HX.out,tL (by rw[HL.out];omega)];rfl,rfl⟩
theorem zg (A:OA)(n c i k:Nat)(l:LU)(w:World)(hr:Rd w 1 A n (l.map vb))(hk:1≤k)(hk8:k≤8)(hi:i+k≤n)(hc:n≤c)(hc2:c≤4611686018427387904):
  Calls Tryz.prog 137 #[.slice A n c,.int .i64 i,.int .i64 k] w fun e w'=>e=.returned (.tuple #[.int .u64 (FU ((l.drop i).take k)),.bool true])∧w'=w:=by
 have hl:=ft hr
 obtain⟨jk,hjk⟩:∃ jk,i+k=jk:=⟨_,rfl⟩
 have hsl:=fun W=>vn (T:=33) (E:=5) (sz:=1) Tryz.underlying33 rfl Tryz.sizeOf5 (A:=A) (n:=n) (c:=c) (i:=i) (j:=jk) (by omega) (by omega) W
 have R2:=hr.cut (i:=i) (j:=jk) (c:=c) (by omega) (by omega) hc
 obtain⟨A2,hA2⟩:∃ A2,(if c=i then A else A.map (·.add (i*1)))=A2:=⟨_,rfl⟩
 rw[hA2,show jk-i=k by omega] at hsl R2
 rw[←List.map_drop,←List.map_take] at R2
 obtain⟨l2,hl2⟩:∃ l2,(l.drop i).take k=l2:=⟨_,rfl⟩
 rw[hl2] at R2 ⊢
 have hl2l:=ft R2
 have hci:((i:Int)+(k:Int))=(jk:Int):=by omega
 have d1:decide ((k:Int)<1)=false:=dF (by omega)
 have d2:decide ((8:Int)<(k:Int))=false:=dF (by omega)
 have d3:decide ((i:Int)<0)=false:=dF (by omega)
 have d4:decide ((n:Int)-(k:Int)<(i:Int))=false:=dF (by omega)
 have HR:=ae R2
 have HL:=ae hl2l
 clear hr hl hA2 R2 hl2 hl2l hjk
 go_enter Tryz.func137,Tryz.ntmps137
 go_wp2_with fail
 go_loop [36,8] (fun s36 s8=>∃ (j x:Nat),j≤k∧s36=.int .i64 j∧s8=.int .u64 x∧Hid (x=FU (l2.take j))) (fun s36 _=>k-(intOf s36).toNat)
 case atStart=>exact⟨0,0,z0,rfl,rfl,rfl⟩
 case round=>
  obtain⟨j,x,hj,rfl,rfl,HX⟩:=hrel
  by_cases hlt:j<k
  ·obtain⟨ch,hch⟩:∃ ch,l2[j]?=some ch:=⟨_,gG (by rw[HL.out];exact hlt)⟩
   obtain⟨b,off,hA,he⟩:=HR.out.2 (by omega)
   have e0:=he j (vb ch) (by rw[List.getElem?_map,hch];rfl)
   have hix:=fun W=>aH (T:=33) (E:=5) (sz:=1) (c:=c-i) Tryz.underlying33 rfl Tryz.sizeOf5 hA hlt W
   have hxs:x≤72057594037927935:=by rw[HX.out];exact Fc (by omega)
   have hct:=ch.toNat_lt
   obtain⟨s,hs⟩:∃ s,8*j=s:=⟨_,rfl⟩
   have hsi:(8:Int)*(j:Int)=(s:Int):=by omega
   have hs56:s≤56:=by omega
   obtain⟨y,hy⟩:∃ y,ch.toNat*256 ^ j=y:=⟨_,rfl⟩
   have hp:256 ^ j=2 ^ s:=by rw[←hs,Nat.pow_mul]
   have hsh:=Ih ch (j:=j) (s:=s) (by omega) hp
   rw[hy] at hsh
   have hshw:=(IntKind.wrap_u64 ((ch.toNat:Int)*2 ^ s)).trans hsh
   have hx6:x<256 ^ j:=by have:=Bn (l2.take j);rw[List.length_take,Nat.min_eq_left (by rw[HL.out];omega),←HX.out] at this;exact this
   have hor:=MF (j:=j) (s:=s) ch hx6 (by omega) hp
   rw[hy] at hor
   have HN:Hid (x+y=FU (l2.take (j+1))):=by show _=_;rw[vo hch,Ic,HX.out,List.length_take,Nat.min_eq_left (by rw[HL.out];omega),hy]
   unfold vb at e0
   clear he hA hch HX hy hp hs hx6
   go_wp2_with fail
   go_round
   case rel=>exact⟨j+1,_,by omega,by go_num,rfl,HN⟩
   case measure=>simp[intOf];omega
  ·go_wp2_with fail
   go_ret2
   exact⟨by rw[HX.out,tL (by rw[HL.out];omega)];rfl,rfl⟩
theorem sT (n:Nat):(madeCells (Value.int .u8 0).cells (n*1)).toList=(List.replicate n (0:UInt8)).map vb:=by
 apply List.ext_getElem?
 intro j
 rw[Nat.mul_one,List.map_replicate,List.getElem?_replicate]
 by_cases h:j<n
 ·simp[madeCells,h,Value.cells,vb,Nat.mod_one]
 ·rw[if_neg h,List.getElem?_eq_none (by simp[madeCells];omega)]
theorem zk (x i s:Nat)(hs:8*i=s):((x:Int) / 2 ^ s) % 256=((dg x i).toNat:Int):=by
 have hp:256 ^ i=2 ^ s:=by rw[←hs,Nat.pow_mul]
 unfold dg
 rw[hp]
 simp
theorem LK {n m:Nat}{r:LU}(c:UInt8):((List.replicate (n+1) (0:UInt8)++r).map vb).set n (vb c)=(List.replicate n 0++c::r).map vb:=by
 rw[List.replicate_succ',List.append_assoc,List.map_append,List.map_append,List.set_append_right _ _ (by simp)]
 simp
theorem LM {n:Nat}{r:LU}(c:UInt8):((r++List.replicate (n+1) (0:UInt8)).map vb).set r.length (vb c)=(r++[c]++List.replicate n 0).map vb:=by
 rw[List.replicate_succ,List.map_append,List.set_append_right _ _ (by simp)]
 simp
theorem oi:(Tryz.prog.info? 5).map (fun i=>(i.zero,i.size,i.bytes))=some (some (.int .u8 0),1,1):=by kernel_rfl
theorem Ik (x k:Nat)(w:World)(hx:x<18446744073709551616)(hk:1≤k)(hk8:k≤8):
  Calls Tryz.prog 98 #[.int .u64 x,.int .i64 k] w fun e w'=>∃ g,e=.returned (.slice (some ⟨g,0,none⟩) k k)∧w'.ownsRow w.heap.size 5 1 (.slice (some ⟨g,0,none⟩) k k) k (Lib.byteCells (EZ x k))∧Below w.heap.size w w':=by
 obtain⟨i0,hi,hz0,hz1,hz2⟩:=info_parts oi
 have d1:decide ((k:Int)<1)=false:=dF (by omega)
 have d2:decide ((8:Int)<(k:Int))=false:=dF (by omega)
 go_enter Tryz.func98,Tryz.ntmps98
 go_wp2_with (
  refine wpList_make_full _ rfl _ _ _ rfl w.heap.size 5 i0 _ 1 Tryz.underlying33 hi hz0 hz1 .i64 .i64 _ _ k rfl rfl rfl rfl (by rw[hz2];omega) (by simp only[maxLen];omega) (by omega) ?_
  intro w1 hr1 hg1)
 have R0:Hid (w1.ownsRow w.heap.size 5 1 (.slice (some ⟨w.heap.size,0,none⟩) k k) k ((List.replicate (k-0) 0++EZ x 0).map vb)):=by
  have:=hr1
  rw[sT] at this
  show World.ownsRow _ _ _ _ _ _ _
  simpa [Bl,EZ] using this
 have L0:=ae ((Below.refl w.heap.size w).grown hg1 lr (by simp))
 clear hr1 hg1
 go_wp2_with fail
 go_loopw [16] (fun s16 wr=>∃ i:Nat,i≤k∧s16=.int .i64 i∧Hid (wr.ownsRow w.heap.size 5 1 (.slice (some ⟨w.heap.size,0,none⟩) k k) k ((List.replicate (k-i) 0++EZ x i).map vb))∧Hid (Below w.heap.size w wr)) (fun s16 _=>k-(intOf s16).toNat)
 case atStart=>exact⟨0,z0,rfl,R0,L0⟩
 case round=>
  obtain⟨i,hik,rfl,HR,HL⟩:=hrel
  by_cases hlt:i<k
  ·obtain⟨m,hm⟩:∃ m,k-i=m+1:=⟨k-i-1,by omega⟩
   have hmi:(k:Int)-1-(i:Int)=(m:Int):=by omega
   obtain⟨s,hs⟩:∃ s,8*i=s:=⟨_,rfl⟩
   have hsi:(8:Int)*(i:Int)=(s:Int):=by omega
   have hs64:s<64:=by omega
   have hsh:=zk x i s hs
   obtain⟨d,hd⟩:∃ d,dg x i=d:=⟨_,rfl⟩
   rw[hd] at hsh
   have hmk:m<k:=by omega
   have cm:=HR.out.cellAt (m) (by omega)
   obtain⟨u,hu⟩:∃ u,((List.replicate (k-i) 0++EZ x i).map vb)[m]?=some u:=⟨_,gG (by simp[lN,qy];omega)⟩
   rw[hu] at cm
   have fm:=HR.out.frozenAt (m)
   have HN:Hid ((wr.setCell ⟨w.heap.size,m,none⟩ (vb d)).ownsRow w.heap.size 5 1 (.slice (some ⟨w.heap.size,0,none⟩) k k) k ((List.replicate (k-(i+1)) 0++EZ x (i+1)).map vb)):=by
    have:=(HR.out.stored (m) (vb d)).1
    rw[hm] at this
    rw[LK (m:=0)] at this
    show World.ownsRow _ _ _ _ _ _ _
    rw[show k-(i+1)=m by omega,Ia,hd]
    exact this
   have HL2:=ae (HL.out.setCell (p:=⟨w.heap.size,m,none⟩) lr (vb d))
   unfold vb at HN HL2
   clear hm hs hd hu
   go_wp2_with fail
   go_roundw
   case rel=>exact⟨i+1,by omega,by go_num,HN,HL2⟩
   case measure=>simp[intOf];omega
  ·obtain rfl:i=k:=by omega
   go_wp2_with fail
   go_ret
   refine⟨_,rfl,?_,HL.out⟩
   have:=HR.out
   rw[Nat.sub_self,List.replicate_zero,List.nil_append] at this
   exact this
theorem Il (x k:Nat)(w:World)(hx:x<18446744073709551616)(hk:1≤k)(hk8:k≤8):
  Calls Tryz.prog 99 #[.int .u64 x,.int .i64 k] w fun e w'=>∃ g,e=.returned (.slice (some ⟨g,0,none⟩) k k)∧w'.ownsRow w.heap.size 5 1 (.slice (some ⟨g,0,none⟩) k k) k (Lib.byteCells (Bl x k))∧Below w.heap.size w w':=by
 obtain⟨i0,hi,hz0,hz1,hz2⟩:=info_parts oi
 have d1:decide ((k:Int)<1)=false:=dF (by omega)
 have d2:decide ((8:Int)<(k:Int))=false:=dF (by omega)
 go_enter Tryz.func99,Tryz.ntmps99
 go_wp2_with (
  refine wpList_make_full _ rfl _ _ _ rfl w.heap.size 5 i0 _ 1 Tryz.underlying33 hi hz0 hz1 .i64 .i64 _ _ k rfl rfl rfl rfl (by rw[hz2];omega) (by simp only[maxLen];omega) (by omega) ?_
  intro w1 hr1 hg1)
 have R0:Hid (w1.ownsRow w.heap.size 5 1 (.slice (some ⟨w.heap.size,0,none⟩) k k) k ((Bl x 0++List.replicate (k-0) 0).map vb)):=by
  have:=hr1
  rw[sT] at this
  show World.ownsRow _ _ _ _ _ _ _
  simpa [Bl,EZ] using this
 have L0:=ae ((Below.refl w.heap.size w).grown hg1 lr (by simp))
 clear hr1 hg1
 go_wp2_with fail
 go_loopw [16] (fun s16 wr=>∃ i:Nat,i≤k∧s16=.int .i64 i∧Hid (wr.ownsRow w.heap.size 5 1 (.slice (some ⟨w.heap.size,0,none⟩) k k) k ((Bl x i++List.replicate (k-i) 0).map vb))∧Hid (Below w.heap.size w wr)) (fun s16 _=>k-(intOf s16).toNat)
 case atStart=>exact⟨0,z0,rfl,R0,L0⟩
 case round=>
  obtain⟨i,hik,rfl,HR,HL⟩:=hrel
  by_cases hlt:i<k
  ·obtain⟨m,hm⟩:∃ m,k-i=m+1:=⟨k-i-1,by omega⟩
   obtain⟨s,hs⟩:∃ s,8*i=s:=⟨_,rfl⟩
   have hsi:(8:Int)*(i:Int)=(s:Int):=by omega
   have hs64:s<64:=by omega
   have hsh:=zk x i s hs
   obtain⟨d,hd⟩:∃ d,dg x i=d:=⟨_,rfl⟩
   rw[hd] at hsh
   have hmk:i<k:=by omega
   have cm:=HR.out.cellAt (i) (by omega)
   obtain⟨u,hu⟩:∃ u,((Bl x i++List.replicate (k-i) 0).map vb)[i]?=some u:=⟨_,gG (by simp[lN,qy];omega)⟩
   rw[hu] at cm
   have fm:=HR.out.frozenAt (i)
   have HN:Hid ((wr.setCell ⟨w.heap.size,i,none⟩ (vb d)).ownsRow w.heap.size 5 1 (.slice (some ⟨w.heap.size,0,none⟩) k k) k ((Bl x (i+1)++List.replicate (k-(i+1)) 0).map vb)):=by
    have:=(HR.out.stored (i) (vb d)).1
    rw[hm] at this
    have e:=LM (n:=m) (r:=Bl x i) d
    rw[lN] at e
    rw[e] at this
    show World.ownsRow _ _ _ _ _ _ _
    rw[show k-(i+1)=m by omega,zb,hd]
    exact this
   have HL2:=ae (HL.out.setCell (p:=⟨w.heap.size,i,none⟩) lr (vb d))
   unfold vb at HN HL2
   clear hm hs hd hu
   go_wp2_with fail
   go_roundw
   case rel=>exact⟨i+1,by omega,by go_num,HN,HL2⟩
   case measure=>simp[intOf];omega
  ·obtain rfl:i=k:=by omega
   go_wp2_with fail
   go_ret
   refine⟨_,rfl,?_,HL.out⟩
   have:=HR.out
   rw[Nat.sub_self,List.replicate_zero,List.append_nil] at this
   exact this
def MG:LU:=[48,49,50,51,52,53,54,55,56,57,97,98,99,100,101,102]
def BE (k:Nat):UInt8:=MG.getD k 48
def oj (l:LU):LU:=l.flatMap fun c=>[BE (c.toNat / 16),BE (c.toNat % 16)]
theorem Fi {l:LU}{i:Nat}{c:UInt8}(h:l[i]?=some c):oj (l.take (i+1))=oj (l.take i)++[BE (c.toNat / 16),BE (c.toNat % 16)]:=by
 unfold oj
 rw[List.take_add_one,h,List.flatMap_append]
 rfl
theorem zn:∀ k:Nat,k<16→∀ W:World,(Instr.index 9 (.string ⟨#[48,49,50,51,52,53,54,55,56,57,97,98,99,100,101,102]⟩) (.int .u8 (k:Int))).run Tryz.prog W=.ok (.int .u8 (BE k).toNat) W:=by
 intro k hk W
 rcases(show k=0∨k=1∨k=2∨k=3∨k=4∨k=5∨k=6∨k=7∨k=8∨k=9∨k=10∨k=11∨k=12∨k=13∨k=14∨k=15 by omega) with rfl | rfl | rfl | rfl | rfl | rfl | rfl | rfl | rfl | rfl | rfl | rfl | rfl | rfl | rfl | rfl<;>kernel_rfl
theorem MH:∀ k:Nat,k<256→bits .and .u8 (k:Int) 15=((k % 16:Nat):Int):=by decide
theorem Fj (w:World)(t:TypeId)(x y:Value):ji ((w.alloc (.cells #[x,y] t)).drew) (w.heap.size+1) 1 (some ⟨w.heap.size,0,none⟩) 2 [x,y]:=by
 refine⟨rfl,fun _=>⟨_,rfl,by simp,fun j u hu=>?_⟩⟩
 rw[sN]
 exact(av.new w [x,y] t).cell j u hu
theorem Fk (n c:Nat)(A:OA)(bs:LU)(w:World)(hr:Rd w 1 A n (bs.map vb))(hn:n≤1000000):
  Calls Tryz.prog 20 #[.slice A n c] w fun e w'=>e=.returned (.string ⟨(oj bs).toArray⟩)∧Below w.heap.size w w':=by
 obtain⟨i0,hi0,hz0,hz1,hz2⟩:=info_parts oi
 have HR:=ae hr
 have HBL:Hid (bs.length=n):=ft hr
 have e2:(2:Int)*(n:Int)=((2*n:Nat):Int):=by omega
 obtain⟨n2,hn2⟩:∃ n2,2*n=n2:=⟨_,rfl⟩
 rw[hn2] at e2
 have HN2:=ae hn2
 have hn2b:n2≤2000000:=by omega
 clear hr hn2
 go_enter Tryz.func20,Tryz.ntmps20
 go_wp2_with (
  refine wpList_make_own _ rfl _ _ 33 rfl w.heap.size 5 i0 _ 1 Tryz.underlying33 hi0 hz0 hz1 .i64 .i64 _ n2 rfl rfl rfl (by rw[hz2];omega) (by simp only[maxLen];omega) (by omega) ?_
  intro w1 hr1 hg1)
 have O1:=ae hr1
 have L1:=ae ((Below.refl w.heap.size w).grown hg1 lr (by simp))
 clear hr1 hg1
 go_wp2_with fail
 go_loopw [12,3] (fun s12 s3 wr=>∃ (i q:Nat) (Ao:OA) (co:Nat),i≤n∧s12=.int .i64 i∧s3=.slice Ao q co∧q≤2000000∧Hid (q=2*i)∧Hid (wr.ownsRow w.heap.size 5 1 (.slice Ao q co) q (Lib.byteCells (oj (bs.take i))))∧Hid (Below w.heap.size w wr)) (fun s12 _ _=>n-(intOf s12).toNat)
 case atStart=>exact⟨0,0,_,_,by omega,rfl,rfl,by omega,rfl,O1,L1⟩
 case round=>
  obtain⟨i,q,Ao,co,hi,rfl,rfl,hq,HQ,HO,HL⟩:=hrel
  by_cases hlt:i<n
  ·obtain⟨ch,hch⟩:∃ ch,bs[i]?=some ch:=⟨_,gG (by rw[HBL.out];exact hlt)⟩
   obtain⟨b,off,hA,he⟩:=(HR.out.below HL.out).2 (by omega)
   have c0:=he i (vb ch) (by rw[List.getElem?_map,hch];rfl)
   have hix:=fun W=>aH (T:=33) (E:=5) (sz:=1) (c:=c) Tryz.underlying33 rfl Tryz.sizeOf5 hA hlt W
   have hcl:=ch.toNat_lt
   obtain⟨h1,hh1⟩:∃ k,ch.toNat / 16=k:=⟨_,rfl⟩
   obtain⟨h2,hh2⟩:∃ k,ch.toNat % 16=k:=⟨_,rfl⟩
   have x1:(ch.toNat:Int) / 16=(h1:Int):=by omega
   have x2:(ch.toNat:Int) % 16=(h2:Int):=by omega
   have x3:bits .and .u8 (ch.toNat:Int) 15=(h2:Int):=by rw[MH ch.toNat hcl,hh2]
   have hx1:=zn h1 (by omega)
   have hx2:=zn h2 (by omega)
   obtain⟨d1,hd1⟩:∃ d,BE h1=d:=⟨_,rfl⟩
   obtain⟨d2,hd2⟩:∃ d,BE h2=d:=⟨_,rfl⟩
   rw[hd1] at hx1
   rw[hd2] at hx2
   have HN:Hid (Lib.byteCells (oj (bs.take (i+1)))=Lib.byteCells (oj (bs.take i))++[.int .u8 d1.toNat,.int .u8 d2.toNat]):=by
    show _=_
    rw[Fi hch,hh1,hh2,hd1,hd2]
    simp[Lib.byteCells]
   have hq2:q+2≤2000000:=by have:=HQ.out;omega
   have HQ2:Hid (q+2=2*(i+1)):=by have:=HQ.out;show _=_;omega
   have hwz:=HL.out.size
   unfold vb at c0
   clear hA he hch hh1 hh2 hd1 hd2
   go_wp2_with fail
   go_region_law (
    refine cS _ (by rfl) _ _ _ (by rfl) w.heap.size 5 i0 _ 1 1 Tryz.underlying33 hi0 hz0 hz1 hz2 rfl (by omega) (.slice Ao q co) q _ (by rfl) ((HO.out.alloc _).drew) (wr.heap.size+1) (some ⟨wr.heap.size,0,none⟩) 2 2 _ (by rfl) (Fj wr _ _ _) (by simp[Value.oneCell']) (by simp only[maxLen];omega) (by omega) (by simp;omega) ?_
    intro v1 w6 hown1 hg1 hat1)
   all_goals
    obtain⟨A1,c1,rfl⟩:=aL hown1
    have O6:Hid (w6.ownsRow w.heap.size 5 1 (.slice A1 (q+2) c1) (q+2) (Lib.byteCells (oj (bs.take (i+1))))):=by
     show World.ownsRow _ _ _ _ _ _ _
     rw[HN.out]
     exact hown1
    have L6:Hid (Below w.heap.size w w6):=(aq (HL.out.alloc hwz _) 1).grown hg1 (Nat.le_trans hwz (by simp)) (fun p hp=>(HO.out.lt p hp).1)
    clear hown1 hg1 hat1
    go_wp2_with fail
    go_roundw
    case rel=>exact⟨i+1,q+2,A1,c1,by omega,by go_num,rfl,hq2,HQ2,O6,L6⟩
    case measure=>simp[intOf];omega
  ·have HI:Hid (i=n):=by show _=_;omega
   have hO:=HO.out
   rw[HI.out,tL (by rw[HBL.out];exact Nat.le_refl _)] at hO
   have hlen:(oj bs).length=q:=by have:=hO.1;simpa [Lib.byteCells] using this
   have hcv:(convert 33 9 (.slice Ao q co)).run Tryz.prog wr=.ok (.string ⟨(oj bs).toArray⟩) wr:=by
    rcases hO.2 with⟨hv,_⟩ | ⟨g,cap,cur,hv,_⟩
    ·injection hv with h1 h2 h3
     subst h1 h2 h3
     have hnil:oj bs=[]:=List.length_eq_zero_iff.1 hlen
     rw[hnil]
     simp[convert,run_underlying Tryz.underlying33,run_underlying Tryz.underlying5,run_underlying Tryz.underlying9,Conv.bytesToString]
     rfl
    ·injection hv with h1 h2 h3
     subst h1 h3
     have h:=run_convert_bytes_back (P:=Tryz.prog) wr 33 9 5 ⟨g,0,none⟩ co (oj bs) Tryz.underlying33 Tryz.underlying5 Tryz.underlying9 (fun j hj=>by
      refine hO.cells (g:=g) rfl j _ ?_
      unfold Lib.byteCells;rw[List.getElem?_map,gG hj];rfl)
     rw[hlen] at h
     exact h
   clear hO hlen
   go_wp2_with fail
   go_ret
   exact⟨rfl,HL.out⟩
end
section
open Go.ChangeShapes Go.WideShapes Go.ChangeAt Go.RowKit
theorem uq {H:Type}{enc:TypeId×Value→H}{P:Program}{w:World}{base:Nat}{sp:Nat→Bool}{held:Bool}{fuel:Nat}{t e:TypeId}{n:Nat}{cs:LV}{zs:List (LU)}{p:List MemPlace}
  (ht:P.underlying t=some (.array n e))(he:P.underlying e=some .string)(hce:P.cellsOf e=1)(hct:P.cellsOf t=n)
  (h:DataW.trod enc P w base sp held fuel t cs=some (.agg (zs.map fun z=>.lit (.string z)),p)):cs=zs.map fun z=>Value.string ⟨z.toArray⟩:=by
 cases fuel with
 | zero=>simp[DataW.trod] at h
 | succ fuel=>
  simp only[DataW.trod,ht,hce,hct,Nat.mul_one] at h
  split at h
  ·rename_i hl
   obtain⟨xs,hm,hx⟩:=Option.map_eq_some_iff.1 h
   have hxs:xs.map (·.1)=zs.map fun z=>(DataW.lit (.string z):DataW H):=by
    have:=congrArg Prod.fst hx
    simpa using this
   have hxl:xs.length=n:=by simpa using Lib.mapM_length hm
   have hzl:zs.length=n:=by
    have:=congrArg List.length hxs
    simp at this
    omega
   apply List.ext_getElem?
   intro i
   by_cases hi:i<n
   ·obtain⟨b,hb,hf⟩:=Lib.mapM_at hm i i (by simp[hi])
    obtain⟨z,hc,rfl,_⟩:=DataW.trod_string he hf
    have h1:cs[i]?=some (.string z):=by
     have:=congrArg (·[0]?) hc
     simpa [List.getElem?_take,List.getElem?_drop] using this
    have h2:(xs.map (·.1))[i]?=some (DataW.lit (.string z.data.toList):DataW H):=by simp[hb]
    rw[hxs] at h2
    simp only[List.getElem?_map,Option.map_eq_some_iff,DataW.lit.injEq,Lit.string.injEq] at h2
    obtain⟨z',hz',rfl⟩:=h2
    simp[h1,hz']
   ·rw[List.getElem?_eq_none (by omega),List.getElem?_eq_none (by simp;omega)]
  ·cases h
theorem dA {P:Program}{w:World}{n:String}{d:DataW Unit}{r:List (String×DataW Unit)}{ps:List MemPlace}(h:DataW.LaidVars P w ((n,d)::r) ps):
  (∃ g t cs fuel p,P.globalNamed n=some g∧(P.globals[g]?).map (·.type)=some t∧w.var? P n=some cs∧DataW.trod (fun _=>()) P w 0 (fun _=>true) false fuel t cs.toList=some (d,p))∧∃ q,DataW.LaidVars P w r q:=by
 obtain⟨g,t,cs,fuel,p,q,h1,h2,h3,h4,h5,_⟩:=h
 exact⟨⟨g,t,cs,fuel,p,h1,h2,h3,h4⟩,q,h5⟩
theorem jV {P:Program}{w:World}{name:String}{zs:List (LU)}{g0:Nat}{t0 e:TypeId}{n:Nat}
  (hg:P.globalNamed name=some g0)(hty:(P.globals[g0]?).map (·.type)=some t0)(ht:P.underlying t0=some (.array n e))(he:P.underlying e=some .string)(hce:P.cellsOf e=1)(hct:P.cellsOf t0=n)
  (h:∃ g t cs fuel p,P.globalNamed name=some g∧(P.globals[g]?).map (·.type)=some t∧w.var? P name=some cs∧DataW.trod (fun _=>()) P w 0 (fun _=>true) false fuel t cs.toList=some (.agg (zs.map fun z=>.lit (.string z)),p))
  (i:Nat)(z:LU)(hi:zs[i]?=some z):w.cell? ⟨g0,i,none⟩=some (.string ⟨z.toArray⟩):=by
 obtain⟨g',t',cs,fuel,p,hg',ht',hvar,hd⟩:=h
 obtain rfl:=Option.some.inj (hg.symm.trans hg')
 obtain rfl:=Option.some.inj (hty.symm.trans ht')
 have hc:=uq ht he hce hct hd
 rw[World.var?_cell hg hvar i,←Array.getElem?_toList,hc]
 simp[hi]
theorem I9 {P:Program}{w:World}{name:String}{k:IntKind}{zs:List Int}{g0:Nat}{t0 e:TypeId}{n:Nat}{D:DataW Unit}(hD:D=Lib.tabData k zs)
  (hg:P.globalNamed name=some g0)(hty:(P.globals[g0]?).map (·.type)=some t0)(ht:P.underlying t0=some (.array n e))(he:P.underlying e=some (.int k))(hce:P.cellsOf e=1)(hct:P.cellsOf t0=n)
  (h:∃ g t cs fuel p,P.globalNamed name=some g∧(P.globals[g]?).map (·.type)=some t∧w.var? P name=some cs∧DataW.trod (fun _=>()) P w 0 (fun _=>true) false fuel t cs.toList=some (D,p)):Lib.TabIs P w name k zs:=by
 obtain⟨g',t',cs,fuel,p,hg',ht',hvar,hd⟩:=h
 subst hD
 obtain rfl:=Option.some.inj (hg.symm.trans hg')
 obtain rfl:=Option.some.inj (hty.symm.trans ht')
 unfold Lib.TabIs
 rw[hvar,←Lib.cells_of_tab ht he hce hct hd]
theorem zA {W:World}(h:laidMetH Tryz.prog lA W)(hsh:W.ShapedOpen Tryz.prog):Gl W:=by
 obtain⟨ps,h0,_⟩:=ou h
 obtain⟨_,q1,h1⟩:=dA h0
 obtain⟨_,q2,h2⟩:=dA h1
 obtain⟨_,q3,h3⟩:=dA h2
 obtain⟨_,q4,h4⟩:=dA h3
 obtain⟨c1,q5,h5⟩:=dA h4
 obtain⟨c2,q6,h6⟩:=dA h5
 obtain⟨c3,q7,h7⟩:=dA h6
 obtain⟨c4,q8,h8⟩:=dA h7
 obtain⟨c5,q9,h9⟩:=dA h8
 refine⟨Go.Proofs.cell_of_shapedOpen_int (zero:=#[.int .i64 0]) (t:=3) hsh (dO (by kernel_rfl)) (by kernel_rfl) rfl (by kernel_rfl) (by kernel_rfl) Tryz.underlying3,?_,?_,?_,?_,?_⟩
 ·intro i hi
  have e:=jV (zs:=[[97,108,112,104,97],[98,101,116,97],[112,114,101],[114,99],[99,118,115],[115,118,110],[103,105,116],[104,103],[112]]) (g0:=5) (t0:=246) (e:=9) (n:=9) (by kernel_rfl) (by kernel_rfl) Tryz.underlying246 Tryz.underlying9 (by kernel_rfl) (by kernel_rfl) c1
  rcases(by omega:i=0∨i=1∨i=2∨i=3∨i=4∨i=5∨i=6∨i=7∨i=8) with rfl | rfl | rfl | rfl | rfl | rfl | rfl | rfl | rfl
  all_goals exact e _ _ rfl
 ·intro i hi
  have e:=jV (zs:=[[],[60,60],[60,61],[61],[62,61],[62,62]]) (g0:=6) (t0:=250) (e:=9) (n:=6) (by kernel_rfl) (by kernel_rfl) Tryz.underlying250 Tryz.underlying9 (by kernel_rfl) (by kernel_rfl) c3
  rcases(by omega:i=0∨i=1∨i=2∨i=3∨i=4∨i=5) with rfl | rfl | rfl | rfl | rfl | rfl
  all_goals exact e _ _ rfl
 ·intro i hi
  have e:=jV (zs:=[[],[60],[60,61],[61],[62,61],[62]]) (g0:=7) (t0:=250) (e:=9) (n:=6) (by kernel_rfl) (by kernel_rfl) Tryz.underlying250 Tryz.underlying9 (by kernel_rfl) (by kernel_rfl) c4
  rcases(by omega:i=0∨i=1∨i=2∨i=3∨i=4∨i=5) with rfl | rfl | rfl | rfl | rfl | rfl
  all_goals exact e _ _ rfl
 ·intro i hi
  have e:=jV (zs:=[[97,110,100],[111,114],[105,102],[117,110,108,101,115,115],[119,105,116,104],[119,105,116,104,111,117,116]]) (g0:=9) (t0:=250) (e:=9) (n:=6) (by kernel_rfl) (by kernel_rfl) Tryz.underlying250 Tryz.underlying9 (by kernel_rfl) (by kernel_rfl) c5
  rcases(by omega:i=0∨i=1∨i=2∨i=3∨i=4∨i=5) with rfl | rfl | rfl | rfl | rfl | rfl
  all_goals exact e _ _ rfl
 ·intro i hi
  have e:=jV (zs:=[[],[60],[60,61],[61],[62,61],[62],[126]]) (g0:=1) (t0:=233) (e:=9) (n:=7) (by kernel_rfl) (by kernel_rfl) Tryz.underlying233 Tryz.underlying9 (by kernel_rfl) (by kernel_rfl) c2
  rcases(by omega:i=0∨i=1∨i=2∨i=3∨i=4∨i=5∨i=6) with rfl | rfl | rfl | rfl | rfl | rfl | rfl
  all_goals exact e _ _ rfl
theorem CZ (l:List bY)(i:Nat):(l.map nv).getD i 0=nv (l.getD i 0):=by
 rw[List.getD_eq_getElem?_getD,List.getD_eq_getElem?_getD,List.getElem?_map]
 cases l[i]?<;>rfl
theorem ur {H:Type}{enc:TypeId×Value→H}{P:Program}{w:World}{base:Nat}{sp:Nat→Bool}{held:Bool}{fuel:Nat}{t e:TypeId}{n m:Nat}{cs:LV}{ds:List (DataW H)}{p:List MemPlace}
  (ht:P.underlying t=some (.array n e))(hce:P.cellsOf e=m)(h:DataW.trod enc P w base sp held fuel t cs=some (.agg ds,p)):
  ∀ (i:Nat)(d:DataW H),i<n→ds[i]?=some d→∃ fuel' p',DataW.trod enc P w base sp held fuel' e ((cs.drop (i*m)).take m)=some (d,p'):=by
 intro i d hi hd
 cases fuel with
 | zero=>simp[DataW.trod] at h
 | succ fuel=>
  simp only[DataW.trod,ht,hce] at h
  split at h
  ·obtain⟨xs,hm,hx⟩:=Option.map_eq_some_iff.1 h
   have hxs:xs.map (·.1)=ds:=by
    have:=congrArg Prod.fst hx
    simpa using this
   obtain⟨b,hb,hf⟩:=Lib.mapM_at hm i i (by simp[hi])
   have h2:(xs.map (·.1))[i]?=some b.1:=by simp[hb]
   rw[hxs,hd] at h2
   injection h2 with h2
   subst h2
   exact⟨fuel,b.2,hf⟩
  ·cases h
theorem BY {w : World} (h : ∃ g t cs fuel p, Tryz.prog.globalNamed "drayage/digest.turns" = some g ∧ (Tryz.prog.globals[g]?).map (·.type) = some t ∧ w.var? Tryz.prog "drayage/digest.turns" = some cs ∧ DataW.trod (fun _ => ()) Tryz.prog w 0 (fun _ => true) false fuel t cs.toList = some (Rows.laid_drayage_digest_turns, p)) (r j : Nat) (z : List Int) (x : Int) (hr : r < 4) (hj : j < 4) (hz : [[7, 12, 17, 22], [5, 9, 14, 20], [4, 11, 16, 23], [6, 10, 15, 21]][r]? = some z) (hx : z[j]? = some x) :
  w.cell? ⟨3,r*4+j,none⟩=some (.int .i64 x):=by
 obtain⟨g',t',cs,fuel,p,hg',ht',hvar,hd⟩:=h
 obtain rfl := Option.some.inj ((show Tryz.prog.globalNamed "drayage/digest.turns" = some 3 by kernel_rfl).symm.trans hg')
 obtain rfl:=Option.some.inj ((show(Tryz.prog.globals[3]?).map (·.type)=some 239 by kernel_rfl).symm.trans ht')
 obtain⟨f',p',hrow⟩:=ur (e:=238) (n:=4) (m:=4) Tryz.underlying239 (by kernel_rfl) (ds:=[[7,12,17,22],[5,9,14,20],[4,11,16,23],[6,10,15,21]].map (Lib.tabData .i64)) hd r (Lib.tabData .i64 z) hr (by rw[List.getElem?_map,hz];rfl)
 have hc:=Lib.cells_of_tab (e:=3) (n:=4) Tryz.underlying238 Tryz.underlying3 (by kernel_rfl) (by kernel_rfl) hrow
 rw [World.var?_cell (show Tryz.prog.globalNamed "drayage/digest.turns" = some 3 by kernel_rfl) hvar, ← Array.getElem?_toList]
 have h2:((cs.toList.drop (r*4)).take 4)[j]?=some (.int .i64 x):=by rw[hc,List.getElem?_map,hx];rfl
 rw[List.getElem?_take_of_lt hj,List.getElem?_drop] at h2
 exact h2
theorem Ja:∀ i:Nat,i<64→∃ z,[[7,12,17,22],[5,9,14,20],[4,11,16,23],[6,10,15,21]][i / 16]?=some z∧z[i % 4]?=some ((pn i:Nat):Int):=by
 intro i hi
 have h1:i / 16=0∨i / 16=1∨i / 16=2∨i / 16=3:=by omega
 have h2:i % 4=0∨i % 4=1∨i % 4=2∨i % 4=3:=by omega
 unfold pn
 rcases h1 with h1 | h1 | h1 | h1<;>rcases h2 with h2 | h2 | h2 | h2<;>rw[h1,h2]<;>exact⟨_,rfl,rfl⟩
theorem Jb : Tryz.prog.globalNamed "errors.errorType" = some 8 := by kernel_rfl
theorem Me : (Tryz.prog.cutTypes.find? (·.1 == "internal/reflectlite.rtype")).map (·.2) = some 317 := by kernel_rfl
theorem FJ:((List.range Tryz.prog.types.size).filter fun t=>Tryz.prog.rowNamed t [101,114,114,111,114])=[228]:=by kernel_rfl
theorem xd:typeHandle Tryz.prog 228=.pointer (some ⟨12,228,none⟩):=by kernel_rfl
theorem zB {W:World}(h:laidMetH Tryz.prog lA W)(hsh:W.ShapedOpen Tryz.prog):wn W:=by
 refine⟨zA h hsh,?_⟩
 have h' : laidMet Tryz.prog iB W ∧ handlesMet Tryz.prog [("errors.errorType", Rows.laid_errors_errorType)] W := h
 obtain⟨name,u,ty,e1,e2,e3,e4,e5⟩:=h'.2 _ (List.mem_singleton.2 rfl)
 have en:name=[101,114,114,111,114]:=(Option.some.inj e1).symm
 subst en
 obtain rfl:=Option.some.inj (Me.symm.trans e2)
 have hm:ty∈(List.range Tryz.prog.types.size).filter fun t=>Tryz.prog.rowNamed t [101,114,114,111,114]:=List.mem_filter.2 ⟨List.mem_range.2 e3,e4⟩
 rw[FJ] at hm
 obtain rfl:=List.mem_singleton.1 hm
 rw[xd] at e5
 simpa using World.var?_cell Jb e5 0
theorem zC {W:World}(h:laidMetH Tryz.prog lA W):qj W:=by
 obtain⟨ps,h0,_⟩:=ou h
 obtain⟨m5,q1,h1⟩:=dA h0
 obtain⟨ms,q2,h2⟩:=dA h1
 obtain⟨_,q3,h3⟩:=dA h2
 obtain⟨mt,q4,h4⟩:=dA h3
 refine⟨fun i hi=>?_,fun i hi=>?_,fun i hi=>?_⟩
 ·have ht:=I9 (zs:=Mn.map nv) (k:=.u32) (by kernel_rfl) (g0:=2) (t0:=237) (e:=137) (n:=64) (by kernel_rfl) (by kernel_rfl) Tryz.underlying237 Tryz.underlying137 (by kernel_rfl) (by kernel_rfl) m5
  have:=ht.cell (g:=2) (by kernel_rfl) i (by rw[List.length_map];exact hi)
  rw[CZ] at this
  exact this
 ·obtain⟨z,h1,h2⟩:=Ja i hi
  exact BY mt (i / 16) (i % 4) z _ (by omega) (by omega) h1 h2
 ·have ht:=I9 (zs:=Mo.map nv) (k:=.u32) (by kernel_rfl) (g0:=4) (t0:=237) (e:=137) (n:=64) (by kernel_rfl) (by kernel_rfl) Tryz.underlying237 Tryz.underlying137 (by kernel_rfl) (by kernel_rfl) ms
  have:=ht.cell (g:=4) (by kernel_rfl) i (by rw[List.length_map];exact hi)
  rw[CZ] at this
  exact this
end
end Go.Proofs.YtlglfpbhapmhiaaGreatDoor
