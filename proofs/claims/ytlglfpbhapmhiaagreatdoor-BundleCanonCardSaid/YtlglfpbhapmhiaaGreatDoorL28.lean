/- A part of the proof. -/
import Derived.Test.YtlglfpbhapmhiaaGreatDoorL08
set_option maxRecDepth 100000
set_option maxHeartbeats 20000000
set_option linter.unusedVariables false
set_option linter.unusedSimpArgs false
namespace Go.Proofs.YtlglfpbhapmhiaaGreatDoor
variable{args:Array Value}{held:Bool}{f:FuncId}{cs:LV}{zs:List (LU)}{p:List MemPlace}{base fuel g0 m n:Nat}{sp:Nat->Bool}{P:Program}{name:String}{e t t0:TypeId}{v:Value}{W w w':World}
section
open Go.RowKit
structure td (w:World):Prop where
 t5:∀ i:Nat,i<64->w.cell? ⟨2,i,none⟩=some (.int .u32 (nv (Ou i)))
 tu:∀ i:Nat,i<64->w.cell? ⟨3,i / 16*4+i % 4,none⟩=some (.int .i64 (rH i))
 ts:∀ i:Nat,i<64->w.cell? ⟨4,i,none⟩=some (.int .u32 (nv (Qw i)))
theorem td.keep (h:td w)(hk:∀ p:Addr,p.block<w.heap.size->w'.cell? p=w.cell? p):td w':=
 ⟨fun i hi=>(hk _ (World.block_lt_of_cell? _ _ (h.t5 i hi))).trans (h.t5 i hi),fun i hi=>(hk _ (World.block_lt_of_cell? _ _ (h.tu i hi))).trans (h.tu i hi),fun i hi=>(hk _ (World.block_lt_of_cell? _ _ (h.ts i hi))).trans (h.ts i hi)⟩
theorem td.below (h:td w)(hb:Below w.heap.size w w'):td w':=h.keep fun _ hp=>hb.cell hp
def MN (kv:Value)(s:S4)(rest:LV):LV:=kv::vw s.a::vw s.b::vw s.c::vw s.d::rest
theorem qo {ws:List cD}{s0:S4}{k q tu:Nat}{ya yb yc yd tk xk f s3:cD}(h:kS ws s0 k=⟨ya,yb,yc,yd⟩)(hq:k / 16=q)(ht:rH k=tu)(hk:Ou k=tk)(hx:ws.getD (Lg q k) 0=xk)(hf:f=Il q yb yc yd)(hs:s3=ya+f+tk+xk):
  kS ws s0 (k+1)=⟨yd,yb+rl tu s3,yb,yc⟩:=by
 rw[kS,h,GQ,hq,ht,hk,hx,hs,hf]
theorem MQ (hb:Nat)(x0 x1 x2 x3 x4 x5 x6 x7 x8 x9 x10 x11 x12 x13 x14 x15 a b c d:cD)(kv:Value)(rest:LV)(w:World)(hG:td w)
  (hB:ax w hb (kv::vw a::vw b::vw c::vw d::rest)):Calls Tryz.prog 138 #[.pointer (some ⟨hb,0,none⟩),.agg #[vw x0,vw x1,vw x2,vw x3,vw x4,vw x5,vw x6,vw x7,vw x8,vw x9,vw x10,vw x11,vw x12,vw x13,vw x14,vw x15]] w fun e w'=>e=.returned (.tuple #[]) /\
   ax w' hb (MN kv (kS [x0,x1,x2,x3,x4,x5,x6,x7,x8,x9,x10,x11,x12,x13,x14,x15] ⟨a,b,c,d⟩ 64) rest)/\w.grownBy w' (some hb):=by
 obtain⟨W1,hW1⟩:∃ W1,w.alloc (.cells #[vw x0,vw x1,vw x2,vw x3,vw x4,vw x5,vw x6,vw x7,vw x8,vw x9,vw x10,vw x11,vw x12,vw x13,vw x14,vw x15] 180)=W1:=⟨_,rfl⟩
 have L1:Hid (Below w.heap.size w W1):=by show Below _ _ _;rw[<-hW1];exact bR.alloc lr _
 obtain⟨ws,hws⟩:∃ ws,ws=[x0,x1,x2,x3,x4,x5,x6,x7,x8,x9,x10,x11,x12,x13,x14,x15]:=⟨_,rfl⟩
 have X1:Hid (∀ i:Nat,i<16->W1.cell? ⟨w.heap.size,i,none⟩=some (.int .u32 (nv (ws.getD i 0)))):=by
  show ∀ i:Nat,i<16->W1.cell? ⟨w.heap.size,i,none⟩=some (.int .u32 (nv (ws.getD i 0)));intro i hi;have:=(ax.new w (ws.map vw) 180).cell i (vw (ws.getD i 0)) (by rw[hws];rw[List.getElem?_map];rw[List.getD_eq_getElem?_getD,gG (by simpa using hi)];rfl);rw[<-hW1];rw[hws] at this |-;exact this
 have HB:Hid (ax W1 hb (kv::vw a::vw b::vw c::vw d::rest)):=hB.below L1.out;have b1:=HB.out.cell 1 _ rfl;have b2:=HB.out.cell 2 _ rfl;have b3:=HB.out.cell 3 _ rfl;have b4:=HB.out.cell 4 _ rfl;have HG:=ae (hG.below L1.out);have HWS:=ae hws;clear hB hG hws;unfold vw at b1 b2 b3 b4 hW1 |-;go_in;go_wp2_with fail;clear hW1;go_quiet (fail);go_wp2;go_loopw [32,4,5,6,7,11] (fun i sa sb sc sd _ wr=>∃ (k:Nat) (ya yb yc yd:cD),k<=64/\i=.int .i64 k/\sa=.int .u32 (nv ya)/\sb=.int .u32 (nv yb)/\sc=.int .u32 (nv yc)/\sd=.int .u32 (nv yd)/\Hid (kS ws ⟨a,b,c,d⟩ k=⟨ya,yb,yc,yd⟩)/\Hid (∃ n,wr=W1.drewN n)) (fun i _ _ _ _ _ _=>64-(intOf i).toNat)
 case atStart=>exact⟨0,a,b,c,d,by omega,rfl,rfl,rfl,rfl,rfl,rfl,_,rfl⟩
 case round=>
  obtain⟨k,ya,yb,yc,yd,hk,rfl,rfl,rfl,rfl,rfl,HS,HW⟩:=hrel;by_cases hlt:k<64
  ·have XW:∀ p v,W1.cell? p=some v->wr.cell? p=some v:=fun p v h=>by obtain⟨n,hn⟩:=HW.out;rw[hn];exact h
   have t5:=XW _ _ (HG.out.t5 k hlt);have tu:=XW _ _ (HG.out.tu k hlt);have hr:=Li k hlt;obtain⟨q,hq⟩:∃ q,k / 16=q:=⟨_,rfl⟩
   obtain⟨r,hr4⟩:∃ r,k % 4=r:=⟨_,rfl⟩
   rw[hq,hr4] at tu;have e2:(k:Int) / 16=(q:Int):=by omega
   have e4:(k:Int).tmod 4=(r:Int):=by rw[Int.tmod_eq_emod_of_nonneg (by omega)];omega
   have hgl:=Ov k hlt;rw[hq] at hgl;obtain⟨gk,hgk⟩:∃ gk,Lg q k=gk:=⟨_,rfl⟩
   rw[hgk] at hgl;have xg:=XW _ _ (X1.out _ hgl);have hgi:(gk:Int)<16:=by omega
   have hqi:(q:Int)<4:=by omega
   have hri:(r:Int)<4:=by omega
   obtain⟨tur,htu⟩:∃ t,rH k=t:=⟨_,rfl⟩
   rw[htu] at tu hr;obtain⟨tk,htk⟩:∃ t,Ou k=t:=⟨_,rfl⟩
   rw[htk] at t5;obtain⟨xk,hxk⟩:∃ t,ws.getD gk 0=t:=⟨_,rfl⟩
   rw[hxk] at xg;have hq4:q<4:=by omega
   have hr44:r<4:=by omega
   have HQ:=ae hq;have HR:=ae hr4;have HTU:=ae htu;have HTK:=ae htk;have HXK:=ae hxk;have HRR:=ae hr;have HGK:=ae hgk;clear hq hr4 htu htk hxk hr hgk XW;rcases(show q=0\/q=1\/q=2\/q=3 by omega) with rfl | rfl | rfl | rfl
   ·obtain⟨t1,t2,t3,f,h1,h2,h3,h4,HF⟩:∃ t1 t2 t3 f:cD,bits .and .u32 (nv yb) (nv yc)=nv t1/\bits .xor .u32 (if IntKind.u32.signed=true then -1 else IntKind.u32.max) (nv yb)=nv t2/\bits .and .u32 (nv t2) (nv yd)=nv t3/\bits .or .u32 (nv t1) (nv t3)=nv f/\Hid (f=Il 0 yb yc yd):=⟨_,_,_,_,tJ _ _,zf _,tJ _ _,AP _ _,rfl⟩
    have ew:IntKind.i64.wrap 0=0:=by rfl
    obtain rfl:k=gk:=HGK.out;rw[show 0*4+r=r by omega] at tu;obtain⟨s1,s2,s3,h5,h6,h7,HS3⟩:∃ s1 s2 s3:cD,IntKind.u32.wrap (nv ya+nv f)=nv s1/\IntKind.u32.wrap (nv s1+nv tk)=nv s2/\IntKind.u32.wrap (nv s2+nv xk)=nv s3/\Hid (s3=ya+f+tk+xk):=⟨_,_,_,fS _ _,fS _ _,fS _ _,rfl⟩
    have h8:=qF yb (rl tur s3);go_upto_region 14 with(fail)
    go_quiet ((go_at_call 189;exact Calls.quiet_of_same (dS s3 tur HRR.out.2 HRR.out.1 _)));go_wp2;go_roundw
    case rel=>exact⟨k+1,yd,yb+rl tur s3,yb,yc,by omega,by go_num,rfl,rfl,rfl,rfl,qo HS.out HQ.out HTU.out HTK.out (HGK.out ▸ HXK.out) HF.out HS3.out,gO HW.out _⟩
    case measure=>simp[intOf];omega
   ·obtain⟨t1,t2,t3,f,h1,h2,h3,h4,HF⟩:∃ t1 t2 t3 f:cD,bits .and .u32 (nv yd) (nv yb)=nv t1/\bits .xor .u32 (if IntKind.u32.signed=true then -1 else IntKind.u32.max) (nv yd)=nv t2/\bits .and .u32 (nv t2) (nv yc)=nv t3/\bits .or .u32 (nv t1) (nv t3)=nv f/\Hid (f=Il 1 yb yc yd):=⟨_,_,_,_,tJ _ _,zf _,tJ _ _,AP _ _,rfl⟩
    have ew:IntKind.i64.wrap 1=1:=by rfl
    have eg:(5*(k:Int)+1) % 16=(gk:Int):=by have:(5*k+1) % 16=gk:=HGK.out;omega
    obtain⟨s1,s2,s3,h5,h6,h7,HS3⟩:∃ s1 s2 s3:cD,IntKind.u32.wrap (nv ya+nv f)=nv s1/\IntKind.u32.wrap (nv s1+nv tk)=nv s2/\IntKind.u32.wrap (nv s2+nv xk)=nv s3/\Hid (s3=ya+f+tk+xk):=⟨_,_,_,fS _ _,fS _ _,fS _ _,rfl⟩
    have h8:=qF yb (rl tur s3);go_upto_region 14 with(fail)
    go_quiet ((go_at_call 189;exact Calls.quiet_of_same (dS s3 tur HRR.out.2 HRR.out.1 _)));go_wp2;go_roundw
    case rel=>exact⟨k+1,yd,yb+rl tur s3,yb,yc,by omega,by go_num,rfl,rfl,rfl,rfl,qo HS.out HQ.out HTU.out HTK.out (HGK.out ▸ HXK.out) HF.out HS3.out,gO HW.out _⟩
    case measure=>simp[intOf];omega
   ·obtain⟨t1,f,h1,h2,HF⟩:∃ t1 f:cD,bits .xor .u32 (nv yb) (nv yc)=nv t1/\bits .xor .u32 (nv t1) (nv yd)=nv f/\Hid (f=Il 2 yb yc yd):=⟨_,_,ze _ _,ze _ _,rfl⟩
    have ew:IntKind.i64.wrap 2=2:=by rfl
    have eg:(3*(k:Int)+5) % 16=(gk:Int):=by have:(3*k+5) % 16=gk:=HGK.out;omega
    obtain⟨s1,s2,s3,h5,h6,h7,HS3⟩:∃ s1 s2 s3:cD,IntKind.u32.wrap (nv ya+nv f)=nv s1/\IntKind.u32.wrap (nv s1+nv tk)=nv s2/\IntKind.u32.wrap (nv s2+nv xk)=nv s3/\Hid (s3=ya+f+tk+xk):=⟨_,_,_,fS _ _,fS _ _,fS _ _,rfl⟩
    have h8:=qF yb (rl tur s3);go_upto_region 14 with(fail)
    go_quiet ((go_at_call 189;exact Calls.quiet_of_same (dS s3 tur HRR.out.2 HRR.out.1 _)));go_wp2;go_roundw
    case rel=>exact⟨k+1,yd,yb+rl tur s3,yb,yc,by omega,by go_num,rfl,rfl,rfl,rfl,qo HS.out HQ.out HTU.out HTK.out (HGK.out ▸ HXK.out) HF.out HS3.out,gO HW.out _⟩
    case measure=>simp[intOf];omega
   ·obtain⟨t1,t2,f,h1,h2,h3,HF⟩:∃ t1 t2 f:cD,bits .xor .u32 (if IntKind.u32.signed=true then -1 else IntKind.u32.max) (nv yd)=nv t1/\bits .or .u32 (nv yb) (nv t1)=nv t2/\bits .xor .u32 (nv yc) (nv t2)=nv f/\Hid (f=Il 3 yb yc yd):=⟨_,_,_,zf _,AP _ _,ze _ _,rfl⟩
    have ew:IntKind.i64.wrap 3=3:=by rfl
    have eg:(7*(k:Int)) % 16=(gk:Int):=by have:7*k % 16=gk:=HGK.out;omega
    obtain⟨s1,s2,s3,h5,h6,h7,HS3⟩:∃ s1 s2 s3:cD,IntKind.u32.wrap (nv ya+nv f)=nv s1/\IntKind.u32.wrap (nv s1+nv tk)=nv s2/\IntKind.u32.wrap (nv s2+nv xk)=nv s3/\Hid (s3=ya+f+tk+xk):=⟨_,_,_,fS _ _,fS _ _,fS _ _,rfl⟩
    have h8:=qF yb (rl tur s3);go_upto_region 14 with(fail)
    go_quiet ((go_at_call 189;exact Calls.quiet_of_same (dS s3 tur HRR.out.2 HRR.out.1 _)));go_wp2;go_roundw
    case rel=>exact⟨k+1,yd,yb+rl tur s3,yb,yc,by omega,by go_num,rfl,rfl,rfl,rfl,qo HS.out HQ.out HTU.out HTK.out (HGK.out ▸ HXK.out) HF.out HS3.out,gO HW.out _⟩
    case measure=>simp[intOf];omega
  ·obtain rfl:k=64:=by omega
   have HB2:Hid (ax wr hb (kv::vw a::vw b::vw c::vw d::rest)):=by obtain⟨n,hn⟩:=HW.out;rw[hn];exact HB.out.drewN n
   have hcp:∀ ty,(Builtin.copy_ #[143,143] ty #[.slice (some ⟨hb,1,none⟩) 8 8,.slice (some ⟨wr.heap.size,0,none⟩) 4 4]).run Tryz.prog (wr.alloc (.cells #[.int .u32 (nv ya),.int .u32 (nv yb),.int .u32 (nv yc),.int .u32 (nv yd)] 137))=.ok (.int .i64 (4:Nat)) ((wr.alloc (.cells #[.int .u32 (nv ya),.int .u32 (nv yb),.int .u32 (nv yc),.int .u32 (nv yd)] 137)).setCells hb 1 [vw ya,vw yb,vw yc,vw yd]):=fun ty=>
    jM (pre:=[kv]) (old:=[vw a,vw b,vw c,vw d]) (post:=rest) (HB2.out.alloc _) ty Tryz.underlying143 (by kernel_rfl) rfl [vw ya,vw yb,vw yc,vw yd] rfl rfl rfl (fun j v hj=>by
     rw[vI];exact(ax.new wr [vw ya,vw yb,vw yc,vw yd] 137).cell j v hj) (by intro v hv;simp[vw] at hv;rcases hv with rfl | rfl | rfl | rfl<;>rfl)
   go_wp2_with (refine nk _ rfl _ _ 143 143 rfl _ _ rfl rfl hcp ?_);go_end0;refine⟨rfl,?_,?_⟩
   ·rw[<-HWS.out,HS.out];exact ax.setN rest [vw ya,vw yb,vw yc,vw yd] [vw a,vw b,vw c,vw d] [kv] _ rfl (HB2.out.alloc _)
   ·exact eY _ _ _ _ (eK (by obtain⟨n,hn⟩:=HW.out;rw[hn];exact bZ (bB (World.grownBy.refl w _) L1.out) n) _)
def MT (kv:Value)(s:S8)(rest:LV):LV:=kv::vw s.a::vw s.b::vw s.c::vw s.d::vw s.e::vw s.f::vw s.g::vw s.h::rest
theorem ro (h:Calls Tryz.prog f args (w.drewN (n+m)) fun e w'=>e=.returned v/\w'=w.drewN (n+m)):Calls Tryz.prog f args (w.drewN (n+m)) fun e w''=>e=.returned v/\∃ k,w''=(w.drewN n).drewN k:=h.mono fun _ _ ⟨he,hm⟩=>⟨he,m,hm.trans (World.drewN_drewN _ _ _).symm⟩
theorem ph (h:Calls Tryz.prog f args (w.drewN (n+m)) fun e w'=>e=.returned v/\w'=w.drewN (n+m)):Calls Tryz.prog f args (w.drewN (n+m)) fun e w''=>e=.returned v/\∃ k,w''=w.drewN (n+k):=h.mono fun _ _ ⟨he,hm⟩=>⟨he,m,hm⟩
theorem Qo (x:cD)(k:Nat):∃ z,nv x / 2 ^ k=nv z/\Hid (z=x >>> k):=⟨_,Lf x k,rfl⟩
theorem CT (hb:Nat)(x0 x1 x2 x3 x4 x5 x6 x7 x8 x9 x10 x11 x12 x13 x14 x15 a b c d e0 f0 g0 h0:cD)(kv:Value)(rest:LV)(w:World)(hG:td w)
  (hB:ax w hb (kv::vw a::vw b::vw c::vw d::vw e0::vw f0::vw g0::vw h0::rest)):Calls Tryz.prog 140 #[.pointer (some ⟨hb,0,none⟩),.agg #[vw x0,vw x1,vw x2,vw x3,vw x4,vw x5,vw x6,vw x7,vw x8,vw x9,vw x10,vw x11,vw x12,vw x13,vw x14,vw x15]] w fun e w'=>e=.returned (.tuple #[]) /\
   ax w' hb (MT kv (qG (AR [x0,x1,x2,x3,x4,x5,x6,x7,x8,x9,x10,x11,x12,x13,x14,x15] 48) ⟨a,b,c,d,e0,f0,g0,h0⟩ 64) rest)/\w.grownBy w' (some hb):=by
 obtain⟨ws,hws⟩:∃ ws,ws=[x0,x1,x2,x3,x4,x5,x6,x7,x8,x9,x10,x11,x12,x13,x14,x15]:=⟨_,rfl⟩
 have hwl:ws.length=16:=by rw[hws];rfl
 obtain⟨W1,hW1⟩:∃ W1,w.alloc (.cells #[vw x0,vw x1,vw x2,vw x3,vw x4,vw x5,vw x6,vw x7,vw x8,vw x9,vw x10,vw x11,vw x12,vw x13,vw x14,vw x15] 180)=W1:=⟨_,rfl⟩
 have L1:Hid (Below w.heap.size w W1):=by show Below _ _ _;rw[<-hW1];exact bR.alloc lr _
 have X1:Hid (ax W1 w.heap.size (ws.map vw)):=by show ax _ _ _;rw[<-hW1,hws];exact ax.new w _ _
 have S1:W1.heap.size=w.heap.size+1:=by rw[<-hW1];simp
 have HBL:Hid (hb<w.heap.size):=hB.sz;have HB:=ae (hB.below L1.out);have HG:=ae hG;have HWS:=ae hws;have HWL:=ae hwl;clear hB hws hwl hG;unfold vw at hW1 |-;go_in;go_wp2_with fail;clear hW1;obtain⟨W2,hcp,HB2,X2,L2⟩:=yH (Z:=(List.replicate 64 (Value.int .u32 0)).toArray) (T:=237) (N:=64) (by kernel_rfl) (by decide) L1.out S1 HWL.out X1.out HB.out HBL.out;clear S1;go_region_law (refine mu rfl (.tmp 20) (.tmp 21) 143 143 rfl _ _ rfl rfl hcp ?_);clear hcp;go_wp2;go_loopw [5] (fun i wr=>∃ (k:Nat) (l:List cD),16<=k/\k<=64/\i=.int .i64 k/\Hid (l.length=k/\∃ n,k=16+n/\l=AR ws n)/\Hid (ax wr (w.heap.size+1) (kz 64 l))/\Hid (ax wr hb (kv::vw a::vw b::vw c::vw d::vw e0::vw f0::vw g0::vw h0::rest))/\Hid (Below w.heap.size w wr)) (fun i _=>64-(intOf i).toNat)
 case atStart=>exact⟨16,ws,by omega,by omega,rfl,⟨HWL.out,0,rfl,rfl⟩,X2,HB2,L2⟩
 case round=>
  obtain⟨k,l,hk16,hk,rfl,HL,HX,HH,HBel⟩:=hrel;by_cases hlt:k<64
  ·obtain⟨m15,e15,i15,n15,ne15,nf15,z15,hz15,c15⟩:=ji HX.out HL.out.1 15 15 64 rfl rfl (by omega) (by omega) hk (by omega);obtain⟨m2,e2,i2,n2,ne2,nf2,z2,hz2,c2⟩:=ji HX.out HL.out.1 2 2 64 rfl rfl (by omega) (by omega) hk (by omega);obtain⟨m7,e7,i7,n7,ne7,nf7,z7,hz7,c7⟩:=ji HX.out HL.out.1 7 7 64 rfl rfl (by omega) (by omega) hk (by omega);obtain⟨m16,e16,i16,n16,ne16,nf16,z16,hz16,c16⟩:=ji HX.out HL.out.1 16 16 64 rfl rfl (by omega) (by omega) hk (by omega);have hki:(k:Int)<64:=by omega
   have ck:=HX.out.cell k _ (by have:=vK (n:=64) (l:=l) (by rw[HL.out.1];exact hlt);rwa [HL.out.1] at this);have fk:=HX.out.free k (by rw[lO (by rw[HL.out.1];omega)];exact hlt);obtain⟨a1,h1,H1⟩:=it (rr 7 z15) (rr 18 z15);obtain⟨a2,h2,H2⟩:=Qo z15 3;obtain⟨a3,h3,H3⟩:=it a1 a2;obtain⟨b1,h4,H4⟩:=it (rr 17 z2) (rr 19 z2);obtain⟨b2,h5,H5⟩:=Qo z2 10;obtain⟨b3,h6,H6⟩:=it b1 b2;obtain⟨s1,g1,_,S1⟩:=iF z16 a3;obtain⟨s2,g2,_,S2⟩:=iF s1 z7;obtain⟨s3,g3,_,S3⟩:=iF s2 b3;have h2':nv z15 / 8=nv a2:=by simpa using h2
   have h5':nv z2 / 1024=nv b2:=by simpa using h5
   have HT:Hid (s3=Qx l k):=by show _=_;unfold Qx Qf Qg;rw[S3.out,S2.out,S1.out,H6.out,H5.out,H4.out,H3.out,H2.out,H1.out,hz15.out,hz2.out,hz7.out,hz16.out]
   have HX2:Hid (∀ n,ax ((wr.drewN n).setCell ⟨w.heap.size+1,k,none⟩ (vw s3)) (w.heap.size+1) (kz 64 (l++[s3]))):=by
    show ∀ _,_;intro n;have:=(HX.out.drewN n).set k (by rw[lO (by rw[HL.out.1];omega)];exact hlt) (vw s3);have e:=vL (n:=64) (l:=l) (by rw[HL.out.1];exact hlt) s3;rw[HL.out.1] at e;rw[e] at this;exact this
   have HH2:Hid (∀ n,ax ((wr.drewN n).setCell ⟨w.heap.size+1,k,none⟩ (vw s3)) hb (kv::vw a::vw b::vw c::vw d::vw e0::vw f0::vw g0::vw h0::rest)):=fun n=>(HH.out.drewN n).far (by have:=HBL.out;omega) _;have HB5:Hid (∀ n,Below w.heap.size w ((wr.drewN n).setCell ⟨w.heap.size+1,k,none⟩ (vw s3))):=fun n=>ai (am HBel.out n) (by omega) _;have HN:Hid ((l++[s3]).length=k+1/\∃ n,k+1=16+n/\l++[s3]=AR ws n):=by
    obtain⟨h1,n,h2,h3⟩:=HL.out;refine⟨by rw[List.length_append,h1];rfl,n+1,by omega,?_⟩;rw[AR,<-h3,HT.out,h2]
   unfold vw at c15 c2 c7 c16 ck;clear h2 h5;go_wp2;go_quiet (fail);go_wp2_with fail;refine(bC z15 7 (by decide) (by decide) _).mono ?_;rintro e w' ⟨rfl,rfl⟩;go_wp2_with fail;refine(bC z15 18 (by decide) (by decide) _).mono ?_;rintro e w' ⟨rfl,rfl⟩;go_wp2_with fail;refine(bC z2 17 (by decide) (by decide) _).mono ?_;rintro e w' ⟨rfl,rfl⟩;go_wp2_with fail;refine(bC z2 19 (by decide) (by decide) _).mono ?_;rintro e w' ⟨rfl,rfl⟩;go_wp2
   go_region_held3 (fun w'=>w'.cell? ⟨w.heap.size+1,m16,none⟩=some (.int .u32 (nv z16))/\w'.cell? ⟨w.heap.size+1,m7,none⟩=some (.int .u32 (nv z7)))
    (first | exact⟨c16,c7⟩ | exact⟨jh c16 ne16,jh c7 ne7⟩ | exact⟨jh (wr:=World.drewN wr _) c16 ne16,jh (wr:=World.drewN wr _) c7 ne7⟩ | go_keep)
    (fail)
   all_goals go_wp2_with fail
   all_goals go_roundw
   case rel=>exact⟨k+1,_,by omega,by omega,by go_num,HN,ae (HX2.out _),ae (HH2.out _),ae (HB5.out _)⟩
   case measure=>simp[intOf];omega
  ·have HK8:Hid (k=64):=by show _=_;omega
   obtain⟨W3,hW3⟩:∃ W3,wr=W3:=⟨_,rfl⟩
   have HLS:Hid (l=AR ws 48):=by
    obtain⟨_,n,h2,h3⟩:=HL.out;have:n=48:=by have:=HK8.out;omega
    show _=_;rw[h3,this]
   have LL:Hid (l.length=64):=HL.out.1.trans HK8.out;have b1:=HH.out.cell 1 _ rfl;have b2:=HH.out.cell 2 _ rfl;have b3:=HH.out.cell 3 _ rfl;have b4:=HH.out.cell 4 _ rfl;have b5:=HH.out.cell 5 _ rfl;have b6:=HH.out.cell 6 _ rfl;have b7:=HH.out.cell 7 _ rfl;have b8:=HH.out.cell 8 _ rfl;unfold vw at b1 b2 b3 b4 b5 b6 b7 b8;rw[hW3] at b1 b2 b3 b4 b5 b6 b7 b8 HX HH HBel |-;clear hW3 HL X2 HB2 L2 HWL X1 HB;go_wp2_with fail;clear b1 b2 b3 b4 b5 b6 b7 b8;have hS0:w.heap.size+1<W3.heap.size:=HX.out.sz;go_loopw [70] (fun i wr=>∃ (k:Nat) (ya yb yc yd ye yf yg yh:cD),k<=64/\i=.int .i64 k/\Hid (qG l ⟨a,b,c,d,e0,f0,g0,h0⟩ k=⟨ya,yb,yc,yd,ye,yf,yg,yh⟩)/\Hid (ax wr W3.heap.size [vw ya,vw yb,vw yc,vw yd,vw ye,vw yf,vw yg,vw yh])/\Hid (ax wr (w.heap.size+1) (kz 64 l))/\Hid (ax wr hb (kv::vw a::vw b::vw c::vw d::vw e0::vw f0::vw g0::vw h0::rest))/\Hid (Below w.heap.size w wr)) (fun i _=>64-(intOf i).toNat)
   case atStart=>exact⟨0,a,b,c,d,e0,f0,g0,h0,by omega,rfl,rfl,ax.new W3 [vw a,vw b,vw c,vw d,vw e0,vw f0,vw g0,vw h0] _,HX.out.alloc _,HH.out.alloc _,HBel.out.alloc HBel.out.size _⟩
   case round=>
    obtain⟨k,ya,yb,yc,yd,ye,yf,yg,yh,hk,rfl,HS,HV,HXr,HHr,HBr⟩:=hrel;have c0:=HV.out.cell 0 _ rfl;have c1:=HV.out.cell 1 _ rfl;have c2:=HV.out.cell 2 _ rfl;have c3:=HV.out.cell 3 _ rfl;have c4:=HV.out.cell 4 _ rfl;have c5:=HV.out.cell 5 _ rfl;have c6:=HV.out.cell 6 _ rfl;have c7:=HV.out.cell 7 _ rfl;by_cases hlt:k<64
    ·obtain⟨xk,hxk⟩:∃ t,l.getD k 0=t:=⟨_,rfl⟩
     have xg:=HXr.out.cell k _ (vJ 64 (by rw[LL.out];exact hlt));rw[hxk] at xg;have tg:=(HG.out.below HBr.out).ts k hlt;obtain⟨tk,htk⟩:∃ t,Qw k=t:=⟨_,rfl⟩
     rw[htk] at tg;have hki:(k:Int)<64:=by omega
     have fz0:=HV.out.free 0 (by simp);have fz1:=HV.out.free 1 (by simp);have fz2:=HV.out.free 2 (by simp);have fz3:=HV.out.free 3 (by simp);have fz4:=HV.out.free 4 (by simp);have fz5:=HV.out.free 5 (by simp);have fz6:=HV.out.free 6 (by simp);have fz7:=HV.out.free 7 (by simp);obtain⟨p1,h1,H1⟩:=it (rr 6 ye) (rr 11 ye);obtain⟨p2,h2,H2⟩:=it p1 (rr 25 ye);obtain⟨p3,h3,_,H3⟩:=iF yh p2;obtain⟨p4,h4,H4⟩:=oe ye yf;obtain⟨p5,h5,H5⟩:=Qe ye;obtain⟨p6,h6,H6⟩:=oe p5 yg;obtain⟨p7,h7,H7⟩:=it p4 p6;obtain⟨p8,h8,_,HA8⟩:=iF p3 p7;obtain⟨p9,h9,_,H9⟩:=iF p8 tk;obtain⟨t1,h10,_,H10⟩:=iF p9 xk;have HT1:Hid (t1=zh l k ⟨ya,yb,yc,yd,ye,yf,yg,yh⟩):=by show _=_;unfold zh;rw[H10.out,H9.out,HA8.out,H7.out,H6.out,H5.out,H4.out,H3.out,H2.out,H1.out,hxk,htk]
     obtain⟨q1,j1,J1⟩:=it (rr 2 ya) (rr 13 ya);obtain⟨q2,j2,J2⟩:=it q1 (rr 22 ya);obtain⟨q3,j3,J3⟩:=oe ya yb;obtain⟨q4,j4,J4⟩:=oe ya yc;obtain⟨q5,j5,J5⟩:=it q3 q4;obtain⟨q6,j6,J6⟩:=oe yb yc;obtain⟨q7,j7,J7⟩:=it q5 q6;obtain⟨t2,_,j8,J8⟩:=iF q2 q7;have HT2:Hid (t2=DM ⟨ya,yb,yc,yd,ye,yf,yg,yh⟩):=by show _=_;unfold DM;rw[J8.out,J7.out,J6.out,J5.out,J4.out,J3.out,J2.out,J1.out]
     obtain⟨na,_,j9,J9⟩:=iF t1 t2;obtain⟨nE,_,j10,J10⟩:=iF yd t1;have HN:Hid (qG l ⟨a,b,c,d,e0,f0,g0,h0⟩ (k+1)=⟨na,ya,yb,yc,nE,ye,yf,yg⟩):=by show _=_;rw[qG,HS.out,GR,J9.out,J10.out,HT1.out,HT2.out]
     have HVN:Hid (∀ n,ax ((wr.drewN n).setCells W3.heap.size 0 [vw na,vw ya,vw yb,vw yc,vw nE,vw ye,vw yf,vw yg]) W3.heap.size [vw na,vw ya,vw yb,vw yc,vw nE,vw ye,vw yf,vw yg]):=fun n=>by
      have:=ax.setN [] [vw na,vw ya,vw yb,vw yc,vw nE,vw ye,vw yf,vw yg] [vw ya,vw yb,vw yc,vw yd,vw ye,vw yf,vw yg,vw yh] [] (wr.drewN n) rfl (by simpa using HV.out.drewN n);simpa using this
     have HXN:Hid (∀ n,ax ((wr.drewN n).setCells W3.heap.size 0 [vw na,vw ya,vw yb,vw yc,vw nE,vw ye,vw yf,vw yg]) (w.heap.size+1) (kz 64 l)):=fun n=>(HXr.out.drewN n).belowN (n:=W3.heap.size) (cI [vw na,vw ya,vw yb,vw yc,vw nE,vw ye,vw yf,vw yg] 0 bR lr) hS0;have HHN:Hid (∀ n,ax ((wr.drewN n).setCells W3.heap.size 0 [vw na,vw ya,vw yb,vw yc,vw nE,vw ye,vw yf,vw yg]) hb (kv::vw a::vw b::vw c::vw d::vw e0::vw f0::vw g0::vw h0::rest)):=fun n=>(HHr.out.drewN n).belowN (n:=W3.heap.size) (cI [vw na,vw ya,vw yb,vw yc,vw nE,vw ye,vw yf,vw yg] 0 bR lr) (by have:=HBL.out;omega);have HBN:Hid (∀ n,Below w.heap.size w ((wr.drewN n).setCells W3.heap.size 0 [vw na,vw ya,vw yb,vw yc,vw nE,vw ye,vw yf,vw yg])):=fun n=>cI [vw na,vw ya,vw yb,vw yc,vw nE,vw ye,vw yf,vw yg] 0 (am HBr.out n) (by omega);unfold vw at xg c0 c1 c2 c3 c4 c5 c6 c7;clear hxk htk;go_upto_region 14 with(fail)
     go_quiet (fail);go_upto_region 15 with(fail)
     go_quiet (first
      | (go_at_call 190;exact ro (bC ye 6 (by decide) (by decide) _))
      | (go_at_call 190;exact ph (bC ye 6 (by decide) (by decide) _))
      | (go_at_call 190;exact Calls.quiet_of_same (bC ye 6 (by decide) (by decide) _))
      | (go_at_call 190;exact ro (bC ye 11 (by decide) (by decide) _))
      | (go_at_call 190;exact ph (bC ye 11 (by decide) (by decide) _))
      | (go_at_call 190;exact Calls.quiet_of_same (bC ye 11 (by decide) (by decide) _))
      | (go_at_call 190;exact ro (bC ye 25 (by decide) (by decide) _))
      | (go_at_call 190;exact ph (bC ye 25 (by decide) (by decide) _))
      | (go_at_call 190;exact Calls.quiet_of_same (bC ye 25 (by decide) (by decide) _)))
     go_wp2_with fail;refine(bC ya 2 (by decide) (by decide) _).mono ?_;rintro e w' ⟨rfl,rfl⟩;go_wp2_with fail;refine(bC ya 13 (by decide) (by decide) _).mono ?_;rintro e w' ⟨rfl,rfl⟩;go_wp2_with fail;refine(bC ya 22 (by decide) (by decide) _).mono ?_;rintro e w' ⟨rfl,rfl⟩;go_wp2;go_roundw
     case rel=>exact⟨k+1,na,ya,yb,yc,nE,ye,yf,yg,by omega,by go_num,HN,ae (HVN.out _),ae (HXN.out _),ae (HHN.out _),ae (HBN.out _)⟩
     case measure=>simp[intOf];omega
    ·have HK9:Hid (k=64):=by show _=_;omega
     have d1:=HHr.out.cell 1 _ rfl;have d2:=HHr.out.cell 2 _ rfl;have d3:=HHr.out.cell 3 _ rfl;have d4:=HHr.out.cell 4 _ rfl;have d5:=HHr.out.cell 5 _ rfl;have d6:=HHr.out.cell 6 _ rfl;have d7:=HHr.out.cell 7 _ rfl;have d8:=HHr.out.cell 8 _ rfl;have fz1:=HHr.out.free 1 (by simp);have fz2:=HHr.out.free 2 (by simp);have fz3:=HHr.out.free 3 (by simp);have fz4:=HHr.out.free 4 (by simp);have fz5:=HHr.out.free 5 (by simp);have fz6:=HHr.out.free 6 (by simp);have fz7:=HHr.out.free 7 (by simp);have fz8:=HHr.out.free 8 (by simp);unfold vw at c0 c1 c2 c3 c4 c5 c6 c7 d1 d2 d3 d4 d5 d6 d7 d8;go_wp2;go_end0;refine⟨rfl,?_,?_⟩
     ·rw[<-HWS.out,<-HLS.out,<-HK9.out,HS.out];exact ax.setN rest [vw ya,vw yb,vw yc,vw yd,vw ye,vw yf,vw yg,vw yh] [vw a,vw b,vw c,vw d,vw e0,vw f0,vw g0,vw h0] [kv] wr rfl HHr.out
     ·exact eY [vw ya,vw yb,vw yc,vw yd,vw ye,vw yf,vw yg,vw yh] 1 _ _ (bB (World.grownBy.refl w _) HBr.out)
end
section
open Go.ChangeShapes Go.WideShapes Go.ChangeAt Go.RowKit
theorem xE {H:Type}{enc:TypeId×Value->H}
  (ht:P.underlying t=some (.array n e))(he:P.underlying e=some .string)(hce:P.cellsOf e=1)(hct:P.cellsOf t=n)
  (h:DataW.trod enc P w base sp held fuel t cs=some (.agg (zs.map fun z=>.lit (.string z)),p)):cs=zs.map fun z=>Value.string ⟨z.toArray⟩:=by
 cases fuel with
 | zero=>simp[DataW.trod] at h
 | succ fuel=>
  simp only[DataW.trod,ht,hce,hct,Nat.mul_one] at h;split at h
  ·rename_i hl;obtain⟨xs,hm,hx⟩:=Option.map_eq_some_iff.1 h;have hxs:xs.map (·.1)=zs.map fun z=>(DataW.lit (.string z):DataW H):=by
    have:=congrArg Prod.fst hx;simpa using this
   have hxl:xs.length=n:=by simpa using Lib.mapM_length hm
   have hzl:zs.length=n:=by
    have:=congrArg List.length hxs;simp at this;omega
   apply List.ext_getElem?;intro i;by_cases hi:i<n
   ·obtain⟨b,hb,hf⟩:=Lib.mapM_at hm i i (by simp[hi]);obtain⟨z,hc,rfl,_⟩:=DataW.trod_string he hf;have h1:cs[i]?=some (.string z):=by
     have:=congrArg (·[0]?) hc;simpa [List.getElem?_take,List.getElem?_drop] using this
    have h2:(xs.map (·.1))[i]?=some (DataW.lit (.string z.data.toList):DataW H):=by simp[hb]
    rw[hxs] at h2;simp only[List.getElem?_map,Option.map_eq_some_iff,DataW.lit.injEq,Lit.string.injEq] at h2;obtain⟨z',hz',rfl⟩:=h2;simp[h1,hz']
   ·rw[List.getElem?_eq_none (by omega),List.getElem?_eq_none (by simp;omega)]
  ·cases h
theorem eH {n:String}{d:DataW Unit}{r:List (String×DataW Unit)}{ps:List MemPlace}(h:DataW.LaidVars P w ((n,d)::r) ps):
  (∃ g t cs fuel p,P.globalNamed n=some g/\(P.globals[g]?).map (·.type)=some t/\w.var? P n=some cs/\DataW.trod (fun _=>()) P w 0 (fun _=>true) false fuel t cs.toList=some (d,p))/\∃ q,DataW.LaidVars P w r q:=by
 obtain⟨g,t,cs,fuel,p,q,h1,h2,h3,h4,h5,_⟩:=h;exact⟨⟨g,t,cs,fuel,p,h1,h2,h3,h4⟩,q,h5⟩
theorem lT 
  (hg:P.globalNamed name=some g0)(hty:(P.globals[g0]?).map (·.type)=some t0)(ht:P.underlying t0=some (.array n e))(he:P.underlying e=some .string)(hce:P.cellsOf e=1)(hct:P.cellsOf t0=n)
  (h:∃ g t cs fuel p,P.globalNamed name=some g/\(P.globals[g]?).map (·.type)=some t/\w.var? P name=some cs/\DataW.trod (fun _=>()) P w 0 (fun _=>true) false fuel t cs.toList=some (.agg (zs.map fun z=>.lit (.string z)),p))
  (i:Nat)(z:LU)(hi:zs[i]?=some z):w.cell? ⟨g0,i,none⟩=some (.string ⟨z.toArray⟩):=by
 obtain⟨g',t',cs,fuel,p,hg',ht',hvar,hd⟩:=h;obtain rfl:=Option.some.inj (hg.symm.trans hg');obtain rfl:=Option.some.inj (hty.symm.trans ht');have hc:=xE ht he hce hct hd;rw[World.var?_cell hg hvar i,<-Array.getElem?_toList,hc];simp[hi]
theorem Od {k:IntKind}{zs:List Int}{D:DataW Unit}(hD:D=Lib.tabData k zs)
  (hg:P.globalNamed name=some g0)(hty:(P.globals[g0]?).map (·.type)=some t0)(ht:P.underlying t0=some (.array n e))(he:P.underlying e=some (.int k))(hce:P.cellsOf e=1)(hct:P.cellsOf t0=n)
  (h:∃ g t cs fuel p,P.globalNamed name=some g/\(P.globals[g]?).map (·.type)=some t/\w.var? P name=some cs/\DataW.trod (fun _=>()) P w 0 (fun _=>true) false fuel t cs.toList=some (D,p)):Lib.TabIs P w name k zs:=by
 obtain⟨g',t',cs,fuel,p,hg',ht',hvar,hd⟩:=h;subst hD;obtain rfl:=Option.some.inj (hg.symm.trans hg');obtain rfl:=Option.some.inj (hty.symm.trans ht');unfold Lib.TabIs;rw[hvar,<-Lib.cells_of_tab ht he hce hct hd]
theorem DE (h:laidMetH Tryz.prog nB W)(hsh:W.ShapedOpen Tryz.prog):Gl W:=by
 obtain⟨ps,h0,_⟩:=qB h;obtain⟨_,q1,h1⟩:=eH h0;obtain⟨_,q2,h2⟩:=eH h1;obtain⟨_,q3,h3⟩:=eH h2;obtain⟨_,q4,h4⟩:=eH h3;obtain⟨c1,q5,h5⟩:=eH h4;obtain⟨c2,q6,h6⟩:=eH h5;obtain⟨c3,q7,h7⟩:=eH h6;obtain⟨c4,q8,h8⟩:=eH h7;obtain⟨c5,q9,h9⟩:=eH h8;refine⟨Go.Proofs.cell_of_shapedOpen_int (zero:=#[.int .i64 0]) (t:=3) hsh (dO (by kernel_rfl)) (by kernel_rfl) rfl (by kernel_rfl) (by kernel_rfl) Tryz.underlying3,?_,?_,?_,?_,?_⟩
 ·intro i hi;have e:=lT (zs:=[[97,108,112,104,97],[98,101,116,97],[112,114,101],[114,99],[99,118,115],[115,118,110],[103,105,116],[104,103],[112]]) (g0:=5) (t0:=246) (e:=9) (n:=9) (by kernel_rfl) (by kernel_rfl) Tryz.underlying246 Tryz.underlying9 (by kernel_rfl) (by kernel_rfl) c1;rcases(by omega:i=0\/i=1\/i=2\/i=3\/i=4\/i=5\/i=6\/i=7\/i=8) with rfl | rfl | rfl | rfl | rfl | rfl | rfl | rfl | rfl
  all_goals exact e _ _ rfl
 ·intro i hi;have e:=lT (zs:=[[],[60,60],[60,61],[61],[62,61],[62,62]]) (g0:=6) (t0:=250) (e:=9) (n:=6) (by kernel_rfl) (by kernel_rfl) Tryz.underlying250 Tryz.underlying9 (by kernel_rfl) (by kernel_rfl) c3;rcases(by omega:i=0\/i=1\/i=2\/i=3\/i=4\/i=5) with rfl | rfl | rfl | rfl | rfl | rfl
  all_goals exact e _ _ rfl
 ·intro i hi;have e:=lT (zs:=[[],[60],[60,61],[61],[62,61],[62]]) (g0:=7) (t0:=250) (e:=9) (n:=6) (by kernel_rfl) (by kernel_rfl) Tryz.underlying250 Tryz.underlying9 (by kernel_rfl) (by kernel_rfl) c4;rcases(by omega:i=0\/i=1\/i=2\/i=3\/i=4\/i=5) with rfl | rfl | rfl | rfl | rfl | rfl
  all_goals exact e _ _ rfl
 ·intro i hi;have e:=lT (zs:=[[97,110,100],[111,114],[105,102],[117,110,108,101,115,115],[119,105,116,104],[119,105,116,104,111,117,116]]) (g0:=9) (t0:=250) (e:=9) (n:=6) (by kernel_rfl) (by kernel_rfl) Tryz.underlying250 Tryz.underlying9 (by kernel_rfl) (by kernel_rfl) c5;rcases(by omega:i=0\/i=1\/i=2\/i=3\/i=4\/i=5) with rfl | rfl | rfl | rfl | rfl | rfl
  all_goals exact e _ _ rfl
 ·intro i hi;have e:=lT (zs:=[[],[60],[60,61],[61],[62,61],[62],[126]]) (g0:=1) (t0:=233) (e:=9) (n:=7) (by kernel_rfl) (by kernel_rfl) Tryz.underlying233 Tryz.underlying9 (by kernel_rfl) (by kernel_rfl) c2;rcases(by omega:i=0\/i=1\/i=2\/i=3\/i=4\/i=5\/i=6) with rfl | rfl | rfl | rfl | rfl | rfl | rfl
  all_goals exact e _ _ rfl
theorem Ih (l:List cD)(i:Nat):(l.map nv).getD i 0=nv (l.getD i 0):=by
 rw[List.getD_eq_getElem?_getD,List.getD_eq_getElem?_getD,List.getElem?_map];cases l[i]?<;>rfl
theorem xF {H:Type}{enc:TypeId×Value->H}{ds:List (DataW H)}
  (ht:P.underlying t=some (.array n e))(hce:P.cellsOf e=m)(h:DataW.trod enc P w base sp held fuel t cs=some (.agg ds,p)):
  ∀ (i:Nat)(d:DataW H),i<n->ds[i]?=some d->∃ fuel' p',DataW.trod enc P w base sp held fuel' e ((cs.drop (i*m)).take m)=some (d,p'):=by
 intro i d hi hd;cases fuel with
 | zero=>simp[DataW.trod] at h
 | succ fuel=>
  simp only[DataW.trod,ht,hce] at h;split at h
  ·obtain⟨xs,hm,hx⟩:=Option.map_eq_some_iff.1 h;have hxs:xs.map (·.1)=ds:=by
    have:=congrArg Prod.fst hx;simpa using this
   obtain⟨b,hb,hf⟩:=Lib.mapM_at hm i i (by simp[hi]);have h2:(xs.map (·.1))[i]?=some b.1:=by simp[hb]
   rw[hxs,hd] at h2;injection h2 with h2;subst h2;exact⟨fuel,b.2,hf⟩
  ·cases h
theorem GJ  (h : ∃ g t cs fuel p, Tryz.prog.globalNamed "drayage/digest.turns" = some g /\ (Tryz.prog.globals[g]?).map (·.type) = some t /\ w.var? Tryz.prog "drayage/digest.turns" = some cs /\ DataW.trod (fun _ => ()) Tryz.prog w 0 (fun _ => true) false fuel t cs.toList = some (Rows.laid_drayage_digest_turns, p)) (r j : Nat) (z : List Int) (x : Int) (hr : r < 4) (hj : j < 4) (hz : [[7, 12, 17, 22], [5, 9, 14, 20], [4, 11, 16, 23], [6, 10, 15, 21]][r]? = some z) (hx : z[j]? = some x) :
  w.cell? ⟨3,r*4+j,none⟩=some (.int .i64 x):=by
 obtain⟨g',t',cs,fuel,p,hg',ht',hvar,hd⟩:=h;obtain rfl := Option.some.inj ((show Tryz.prog.globalNamed "drayage/digest.turns" = some 3 by kernel_rfl).symm.trans hg');obtain rfl:=Option.some.inj ((show(Tryz.prog.globals[3]?).map (·.type)=some 239 by kernel_rfl).symm.trans ht');obtain⟨f',p',hrow⟩:=xF (e:=238) (n:=4) (m:=4) Tryz.underlying239 (by kernel_rfl) (ds:=[[7,12,17,22],[5,9,14,20],[4,11,16,23],[6,10,15,21]].map (Lib.tabData .i64)) hd r (Lib.tabData .i64 z) hr (by rw[List.getElem?_map,hz];rfl);have hc:=Lib.cells_of_tab (e:=3) (n:=4) Tryz.underlying238 Tryz.underlying3 (by kernel_rfl) (by kernel_rfl) hrow;rw [World.var?_cell (show Tryz.prog.globalNamed "drayage/digest.turns" = some 3 by kernel_rfl) hvar, <- Array.getElem?_toList];have h2:((cs.toList.drop (r*4)).take 4)[j]?=some (.int .i64 x):=by rw[hc,List.getElem?_map,hx];rfl
 rw[List.getElem?_take_of_lt hj,List.getElem?_drop] at h2;exact h2
theorem Oe:∀ i:Nat,i<64->∃ z,[[7,12,17,22],[5,9,14,20],[4,11,16,23],[6,10,15,21]][i / 16]?=some z/\z[i % 4]?=some ((rH i:Nat):Int):=by
 intro i hi;have h1:i / 16=0\/i / 16=1\/i / 16=2\/i / 16=3:=by omega
 have h2:i % 4=0\/i % 4=1\/i % 4=2\/i % 4=3:=by omega
 unfold rH;rcases h1 with h1 | h1 | h1 | h1<;>rcases h2 with h2 | h2 | h2 | h2<;>rw[h1,h2]<;>exact⟨_,rfl,rfl⟩
theorem Of : Tryz.prog.globalNamed "errors.errorType" = some 8 := by kernel_rfl
theorem RJ : (Tryz.prog.cutTypes.find? (·.1 == "internal/reflectlite.rtype")).map (·.2) = some 317 := by kernel_rfl
theorem KW:((List.range Tryz.prog.types.size).filter fun t=>Tryz.prog.rowNamed t [101,114,114,111,114])=[228]:=by kernel_rfl
theorem AH:typeHandle Tryz.prog 228=.pointer (some ⟨12,228,none⟩):=by kernel_rfl
theorem DF (h:laidMetH Tryz.prog nB W)(hsh:W.ShapedOpen Tryz.prog):zL W:=by
 refine⟨DE h hsh,?_⟩;have h' : laidMet Tryz.prog jQ W /\ handlesMet Tryz.prog [("errors.errorType", Rows.laid_errors_errorType)] W := h;obtain⟨name,u,ty,e1,e2,e3,e4,e5⟩:=h'.2 _ (List.mem_singleton.2 rfl);have en:name=[101,114,114,111,114]:=(Option.some.inj e1).symm;subst en;obtain rfl:=Option.some.inj (RJ.symm.trans e2);have hm:ty∈(List.range Tryz.prog.types.size).filter fun t=>Tryz.prog.rowNamed t [101,114,114,111,114]:=List.mem_filter.2 ⟨List.mem_range.2 e3,e4⟩;rw[KW] at hm;obtain rfl:=List.mem_singleton.1 hm;rw[AH] at e5;simpa using World.var?_cell Of e5 0
theorem DG (h:laidMetH Tryz.prog nB W):td W:=by
 obtain⟨ps,h0,_⟩:=qB h;obtain⟨m5,q1,h1⟩:=eH h0;obtain⟨ms,q2,h2⟩:=eH h1;obtain⟨_,q3,h3⟩:=eH h2;obtain⟨mt,q4,h4⟩:=eH h3;refine⟨fun i hi=>?_,fun i hi=>?_,fun i hi=>?_⟩
 ·have ht:=Od (zs:=R9.map nv) (k:=.u32) (by kernel_rfl) (g0:=2) (t0:=237) (e:=137) (n:=64) (by kernel_rfl) (by kernel_rfl) Tryz.underlying237 Tryz.underlying137 (by kernel_rfl) (by kernel_rfl) m5;have:=ht.cell (g:=2) (by kernel_rfl) i (by rw[List.length_map];exact hi);rw[Ih] at this;exact this
 ·obtain⟨z,h1,h2⟩:=Oe i hi;exact GJ mt (i / 16) (i % 4) z _ (by omega) (by omega) h1 h2
 ·have ht:=Od (zs:=Sa.map nv) (k:=.u32) (by kernel_rfl) (g0:=4) (t0:=237) (e:=137) (n:=64) (by kernel_rfl) (by kernel_rfl) Tryz.underlying237 Tryz.underlying137 (by kernel_rfl) (by kernel_rfl) ms;have:=ht.cell (g:=4) (by kernel_rfl) i (by rw[List.length_map];exact hi);rw[Ih] at this;exact this
end
end Go.Proofs.YtlglfpbhapmhiaaGreatDoor
