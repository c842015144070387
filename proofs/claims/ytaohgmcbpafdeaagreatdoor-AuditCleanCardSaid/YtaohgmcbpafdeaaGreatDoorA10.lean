/- A part of the proof. -/
import Derived.Test.YtaohgmcbpafdeaaGreatDoorA03
import Derived.Test.YtaohgmcbpafdeaaGreatDoorA06
import Derived.Test.YtaohgmcbpafdeaaGreatDoorA08
set_option maxRecDepth 100000
set_option maxHeartbeats 20000000
set_option linter.unusedVariables false
set_option linter.unusedSimpArgs false
namespace Go.Proofs.YtaohgmcbpafdeaaGreatDoor
section
open Go.RowKit
theorem cQ (c:UInt8)(w:World):
  Calls Tryz.prog 148 #[.int .u8 c.toNat] w fun e w'=>e=.returned (.bool (cu c))∧w=w':=by
 go_enter Tryz.func148,Tryz.ntmps148
 go_wp2
 all_goals (go_ret;refine⟨af ?_,rfl⟩;rw[bI];simp[cu];omega)
theorem jr (c:UInt8)(w:World):
  Calls Tryz.prog 153 #[.int .u8 c.toNat] w fun e w'=>e=.returned (.bool (gK c))∧w=w':=by
 go_enter Tryz.func153,Tryz.ntmps153
 go_wp2
 all_goals (go_ret;refine⟨af ?_,rfl⟩;rw[bI];simp[gK];omega)
theorem fI (c:UInt8)(w:World):
  Calls Tryz.prog 185 #[.int .u8 c.toNat] w fun e w'=>e=.returned (.bool (jF c))∧w=w':=by
 cases h:gK c
 all_goals
  go_enter Tryz.func185,Tryz.ntmps185
  go_wp2_with (go_at_call 153;refine(jr _ _).mono ?_;rintro e w' ⟨rfl,rfl⟩)
 all_goals (go_ret;refine⟨af ?_,rfl⟩;rw[bI];simp[jF,Ld,h];try omega)
def aA (p:UInt8→Bool)(l:LU):Nat:=(l.takeWhile p).length
theorem js {p:UInt8→Bool}:∀ (l:LU),l.all p=true→l.takeWhile p=l
 | [],_=>rfl
 | c::r,h=>by
  simp only[List.all_cons,Bool.and_eq_true] at h
  rw[List.takeWhile_cons_of_pos h.1,js r h.2]
theorem vq (p:UInt8→Bool)(s:BA)(k:Nat)(h:k<s.size)(h0:((bl s).take k).all p=true)(h1:p s[k]=false):aA p (bl s)=k:=by
 have hl:k<(bl s).length:=by rw[ag];exact h
 have e:bl s=(bl s).take k++(bl s)[k]::(bl s).drop (k+1):=by rw[←List.drop_eq_getElem_cons hl,List.take_append_drop]
 unfold aA
 rw[e,List.takeWhile_append_of_pos (by simpa using h0),gj s k h,List.takeWhile_cons_of_neg (by simp[h1])]
 simp;omega
theorem yC (p:UInt8→Bool)(s:BA)(k:Nat)(h:¬ k<s.size)(h0:((bl s).take k).all p=true):aA p (bl s)=s.size:=by
 rw[gm s k (by omega)] at h0
 unfold aA
 rw[js _ h0,ag]
theorem pP (f:FuncId)(p:UInt8→Bool)(s:BA)(w:World)(hs:s.size≤9223372036854775807)
  (hcall:∀ (args:Array Value)(w:World),(callFunc f args).run Tryz.prog w=.ok (.enter f args) w)
  (hf:Hid (∀ c:UInt8,Calls Tryz.prog f #[.int .u8 c.toNat] w fun e w'=>e=.returned (.bool (p c))∧w=w')):
  Calls Tryz.prog 151 #[.string s,.func (.func f) #[] #[]] w fun e w'=>e=.returned (.int .i64 (aA p (bl s)))∧w=w':=by
 go_enter Tryz.func151,Tryz.ntmps151
 go_wp2
 go_loop [5] (fun i=>∃ k:Nat,k≤s.size∧i=.int .i64 k∧Hid (((bl s).take k).all p=true)) (fun i=>s.size-(intOf i).toNat)
 case atStart=>exact⟨0,z0,rfl,by simp[Hid]⟩
 case round=>
  obtain⟨k,hk,rfl,hw⟩:=hrel
  by_cases hlt:k<s.size
  ·cases hl:p s[k]
   ·have HL:=ae hl;clear hl
    go_wp2_with fail
    refine(hf.out s[k]).mono ?_;rintro e w' ⟨rfl,rfl⟩
    rw[HL.out]
    go_wp2_with fail
    go_ret
    exact⟨ap (by rw[vq p s k hlt hw.out HL.out]),rfl⟩
   ·have HL:=ae hl;clear hl
    go_wp2_with fail
    refine(hf.out s[k]).mono ?_;rintro e w' ⟨rfl,rfl⟩
    rw[HL.out]
    go_wp2_with fail
    go_round
    case rel=>exact⟨k+1,by omega,by go_num,by show _=_;rw[de s k hlt,hw.out,HL.out];rfl⟩
    case measure=>simp[intOf];omega
  ·go_wp2_with fail
   go_ret
   exact⟨ap (by rw[yC p s k hlt hw.out];congr;omega),rfl⟩
theorem wJ (f:FuncId)(x:Value)(p:UInt8→Bool)(s:BA)(w:World)(hs:s.size≤9223372036854775807)
  (hcall:∀ (args:Array Value)(w:World),(callFunc f args).run Tryz.prog w=.ok (.enter f args) w)
  (hf:Hid (∀ c:UInt8,Calls Tryz.prog f #[.int .u8 c.toNat,x] w fun e w'=>e=.returned (.bool (p c))∧w=w')):
  Calls Tryz.prog 151 #[.string s,.func (.func f) #[] #[x]] w fun e w'=>e=.returned (.int .i64 (aA p (bl s)))∧w=w':=by
 go_enter Tryz.func151,Tryz.ntmps151
 go_wp2
 go_loop [5] (fun i=>∃ k:Nat,k≤s.size∧i=.int .i64 k∧Hid (((bl s).take k).all p=true)) (fun i=>s.size-(intOf i).toNat)
 case atStart=>exact⟨0,z0,rfl,by simp[Hid]⟩
 case round=>
  obtain⟨k,hk,rfl,hw⟩:=hrel
  by_cases hlt:k<s.size
  ·cases hl:p s[k]
   ·have HL:=ae hl;clear hl
    go_wp2_with fail
    refine(hf.out s[k]).mono ?_;rintro e w' ⟨rfl,rfl⟩
    rw[HL.out]
    go_wp2_with fail
    go_ret
    exact⟨ap (by rw[vq p s k hlt hw.out HL.out]),rfl⟩
   ·have HL:=ae hl;clear hl
    go_wp2_with fail
    refine(hf.out s[k]).mono ?_;rintro e w' ⟨rfl,rfl⟩
    rw[HL.out]
    go_wp2_with fail
    go_round
    case rel=>exact⟨k+1,by omega,by go_num,by show _=_;rw[de s k hlt,hw.out,HL.out];rfl⟩
    case measure=>simp[intOf];omega
  ·go_wp2_with fail
   go_ret
   exact⟨ap (by rw[yC p s k hlt hw.out];congr;omega),rfl⟩
theorem vr (s:BA)(w:World)(hs:s.size≤9223372036854775807):
  Calls Tryz.prog 151 #[.string s,.func (.func 148) #[] #[]] w fun e w'=>e=.returned (.int .i64 (aA cu (bl s)))∧w=w':=
 pP _ cu s w hs Tryz.call148 (ae fun c=>cQ c w)
theorem EI (s:BA)(w:World)(hs:s.size≤9223372036854775807):
  Calls Tryz.prog 151 #[.string s,.func (.func 153) #[] #[]] w fun e w'=>e=.returned (.int .i64 (aA gK (bl s)))∧w=w':=
 pP _ gK s w hs Tryz.call153 (ae fun c=>jr c w)
def rE (l:LU):Bool:=decide (1≤l.length)&&decide (l.length≤100)&&rt 32 l&&l.head? != some 32&&l.getLast? != some 32
theorem Lf (s:BA)(h:0<s.size):(bl s).head?=some s[0]:=by rw[fG s h];rfl
theorem Lg (s:BA)(h:0<s.size):(bl s).getLast?=some (s[s.size-1]):=by
 rw[List.getLast?_eq_getElem?,ag,cZ s (s.size-1) (by omega)]
theorem DI (a:UInt8):(((a.toNat:Nat):Int) != 32)=(some a != some 32):=by
 rw[bI];simp[←UInt8.toNat_inj];omega
theorem mR (s:BA)(w:World)(hs:s.size≤9223372036854775807):
  Calls Tryz.prog 55 #[.string s] w fun e w'=>e=.returned (.bool (rE (bl s)))∧w=w':=by
 have HB:=ae (ag s)
 by_cases h1:1≤s.size
 ·by_cases h2:s.size≤100
  ·have hh:=ae (Lf s (by omega))
   have hl:=ae (Lg s (by omega))
   cases hw:rt 32 (bl s)
   ·go_enter Tryz.func55,Tryz.ntmps55
    go_wp2_with (go_at_call 78;refine(jZ _ 32 _ hs).mono ?_;rintro e w' ⟨rfl,rfl⟩)
    go_ret
    exact⟨af (by unfold rE;rw[hw];simp),rfl⟩
   ·go_enter Tryz.func55,Tryz.ntmps55
    go_wp2_with (go_at_call 78;refine(jZ _ 32 _ hs).mono ?_;rintro e w' ⟨rfl,rfl⟩)
    all_goals go_ret
    all_goals (refine⟨af ?_,rfl⟩;unfold rE;rw[hw,HB.out,dT h1,dT h2,hh.out,hl.out])
    ·rw[←DI,←DI];simp[‹_=(32:Int)›]
    ·rw[←DI,←DI];simp
  ·go_enter Tryz.func55,Tryz.ntmps55
   go_wp2_with fail
   go_ret
   exact⟨af (by unfold rE;rw[HB.out,dF h2];simp),rfl⟩
 ·go_enter Tryz.func55,Tryz.ntmps55
  go_wp2_with fail
  go_ret
  exact⟨af (by unfold rE;rw[HB.out,dF h1];simp),rfl⟩
def DJ (r:Option (LU×LU×LU)):Int:=if r.isSome then 0 else 3
end
abbrev bX:=BitVec 32
def vw (x:bX):Value:=.int .u32 (nv x)
def vb (c:UInt8):Value:=.int .u8 c.toNat
def Oo:List bX:=[3614090360,3905402710,606105819,3250441966,4118548399,1200080426,2821735955,4249261313,1770035416,2336552879,4294925233,2304563134,1804603682,4254626195,2792965006,1236535329,4129170786,3225465664,643717713,3921069994,3593408605,38016083,3634488961,3889429448,568446438,3275163606,4107603335,1163531501,2850285829,4243563512,1735328473,2368359562,4294588738,2272392833,1839030562,4259657740,2763975236,1272893353,4139469664,3200236656,681279174,3936430074,3572445317,76029189,3654602809,3873151461,530742520,3299628645,4096336452,1126891415,2878612391,4237533241,1700485571,2399980690,4293915773,2240044497,1873313359,4264355552,2734768916,1309151649,4149444226,3174756917,718787259,3951481745]
def Oq:List bX:=[1116352408,1899447441,3049323471,3921009573,961987163,1508970993,2453635748,2870763221,3624381080,310598401,607225278,1426881987,1925078388,2162078206,2614888103,3248222580,3835390401,4022224774,264347078,604807628,770255983,1249150122,1555081692,1996064986,2554220882,2821834349,2952996808,3210313671,3336571891,3584528711,113926993,338241895,666307205,773529912,1294757372,1396182291,1695183700,1986661051,2177026350,2456956037,2730485921,2820302411,3259730800,3345764771,3516065817,3600352804,4094571909,275423344,430227734,506948616,659060556,883997877,958139571,1322822218,1537002063,1747873779,1955562222,2024104815,2227730452,2361852424,2428436474,2756734187,3204031479,3329325298]
def Ln (i:Nat):bX:=Oo.getD i 0
def MX (i:Nat):bX:=Oq.getD i 0
def pR (i:Nat):Nat:=[7,12,17,22,5,9,14,20,4,11,16,23,6,10,15,21].getD (4*(i / 16)+i % 4) 1
def Fb (q:Nat)(b c d:bX):bX:=if q=0 then b &&& c ||| ~~~b &&& d else if q=1 then d &&& b ||| ~~~d &&& c else if q=2 then b ^^^ c ^^^ d else c ^^^ (b ||| ~~~d)
def Iw (q i:Nat):Nat:=if q=0 then i else if q=1 then (5*i+1) % 16 else if q=2 then (3*i+5) % 16 else 7*i % 16
structure S4 where
 a:bX
 b:bX
 c:bX
 d:bX
def DN (w:List bX)(i:Nat)(s:S4):S4:=⟨s.d,s.b+rl (pR i) (s.a+Fb (i / 16) s.b s.c s.d+Ln i+w.getD (Iw (i / 16) i) 0),s.b,s.c⟩
def jt (w:List bX)(s:S4):Nat→S4
 | 0=>s
 | n+1=>DN w n (jt w s n)
structure S5 where
 a:bX
 b:bX
 c:bX
 d:bX
 e:bX
def vt (q:Nat)(b c d:bX):bX:=if q=0 then b &&& c ||| ~~~b &&& d else if q=1 then b ^^^ c ^^^ d else if q=2 then b &&& c ||| b &&& d ||| c &&& d else b ^^^ c ^^^ d
def mq (q:Nat):bX:=if q=0 then 0x5a827999 else if q=1 then 0x6ed9eba1 else if q=2 then 0x8f1bbcdc else 0xca62c1d6
def Ix (l:List bX)(i:Nat):bX:=rl 1 (l.getD (i-3) 0 ^^^ l.getD (i-8) 0 ^^^ l.getD (i-14) 0 ^^^ l.getD (i-16) 0)
def pS (w:List bX):Nat→List bX
 | 0=>w
 | n+1=>pS w n++[Ix (pS w n) (16+n)]
def yL (l:List bX)(i:Nat)(s:S5):S5:=⟨rl 5 s.a+vt (i / 20) s.b s.c s.d+s.e+mq (i / 20)+l.getD i 0,s.a,rl 30 s.b,s.c,s.d⟩
def kj (l:List bX)(s:S5):Nat→S5
 | 0=>s
 | n+1=>yL l n (kj l s n)
structure S8 where
 a:bX
 b:bX
 c:bX
 d:bX
 e:bX
 f:bX
 g:bX
 h:bX
def Mw (x:bX):bX:=rr 7 x ^^^ rr 18 x ^^^ x >>> 3
def Mx (x:bX):bX:=rr 17 x ^^^ rr 19 x ^^^ x >>> 10
def MY (l:List bX)(i:Nat):bX:=l.getD (i-16) 0+Mw (l.getD (i-15) 0)+l.getD (i-7) 0+Mx (l.getD (i-2) 0)
def yM (w:List bX):Nat→List bX
 | 0=>w
 | n+1=>yM w n++[MY (yM w n) (16+n)]
def wW (l:List bX)(i:Nat)(s:S8):bX:=s.h+(rr 6 s.e ^^^ rr 11 s.e ^^^ rr 25 s.e)+(s.e &&& s.f ^^^ ~~~s.e &&& s.g)+MX i+l.getD i 0
def Bq (s:S8):bX:=(rr 2 s.a ^^^ rr 13 s.a ^^^ rr 22 s.a)+(s.a &&& s.b ^^^ s.a &&& s.c ^^^ s.b &&& s.c)
def DP (l:List bX)(i:Nat)(s:S8):S8:=⟨wW l i s+Bq s,s.a,s.b,s.c,s.d+wW l i s,s.e,s.f,s.g⟩
def oU (l:List bX)(s:S8):Nat→S8
 | 0=>s
 | n+1=>DP l n (oU l s n)
theorem Iy:∀ i:Nat,i<64→0<pR i∧pR i<32:=by decide
theorem Lo (i:Nat)(hi:i<64):Iw (i / 16) i<16:=by
 unfold Iw
 split
 ·omega
 ·split
  ·omega
  ·split<;>omega
def dg (n j:Nat):UInt8:=UInt8.ofNat (n / 256 ^ j)
def C8 (n k:Nat):LU:=(List.range k).map (dg n)
def GS (n k:Nat):LU:=(C8 n k).reverse
theorem lY (n k:Nat):(C8 n k).length=k:=by simp[C8]
theorem rj (n k:Nat):(GS n k).length=k:=by simp[GS,lY]
theorem An (n k:Nat):C8 n (k+1)=C8 n k++[dg n k]:=by simp[C8,List.range_succ]
theorem JO (n k:Nat):GS n (k+1)=dg n k::GS n k:=by simp[GS,An]
def wm (l:LU):Nat:=l.foldl (fun n c=>n*256+c.toNat) 0
def Id (l:LU):Nat:=wm l.reverse
theorem JP (l:LU)(c:UInt8):wm (l++[c])=wm l*256+c.toNat:=by simp[wm]
theorem Aq (c:UInt8)(l:LU):wm (c::l)=c.toNat*256 ^ l.length+wm l:=by
 have h:∀ (l:LU)(n:Nat),l.foldl (fun n c=>n*256+c.toNat) n=n*256 ^ l.length+wm l:=by
  intro l
  induction l with
  | nil=>intro n;simp[wm]
  | cons a r ih=>
   intro n
   unfold wm
   rw[List.foldl_cons,List.foldl_cons,ih,ih,List.length_cons,Nat.pow_succ,Nat.zero_mul,Nat.zero_add]
   have:(n*256+a.toNat)*256 ^ r.length=n*(256 ^ r.length*256)+a.toNat*256 ^ r.length:=by rw[Nat.add_mul,Nat.mul_assoc,Nat.mul_comm 256]
   omega
 show(c::l).foldl _ 0=_
 rw[List.foldl_cons,h]
 simp
theorem JQ (l:LU)(c:UInt8):Id (l++[c])=Id l+c.toNat*256 ^ l.length:=by
 unfold Id
 rw[List.reverse_append]
 show wm (c::l.reverse)=_
 rw[Aq,List.length_reverse]
 omega
theorem C9 (l:LU):wm l<256 ^ l.length:=by
 induction l with
 | nil=>simp[wm]
 | cons c r ih=>
  rw[Aq,List.length_cons,Nat.pow_succ]
  have:=c.toNat_lt
  have h2:c.toNat*256 ^ r.length≤255*256 ^ r.length:=Nat.mul_le_mul_right _ (by omega)
  omega
theorem Da (l:LU):Id l<256 ^ l.length:=by have:=C9 l.reverse;rwa [List.length_reverse] at this
def Db (low:Bool)(blk:LU)(i:Nat):bX:=BitVec.ofNat 32 (if low then Id ((blk.drop (4*i)).take 4) else wm ((blk.drop (4*i)).take 4))
def rk (low:Bool)(blk:LU):List bX:=(List.range 16).map (Db low blk)
def tR (ws st:List bX):List bX:=
 [(jt ws ⟨st.getD 0 0,st.getD 1 0,st.getD 2 0,st.getD 3 0⟩ 64).a,(jt ws ⟨st.getD 0 0,st.getD 1 0,st.getD 2 0,st.getD 3 0⟩ 64).b,(jt ws ⟨st.getD 0 0,st.getD 1 0,st.getD 2 0,st.getD 3 0⟩ 64).c,(jt ws ⟨st.getD 0 0,st.getD 1 0,st.getD 2 0,st.getD 3 0⟩ 64).d]++st.drop 4
def oG (ws st:List bX):S5:=kj (pS ws 64) ⟨st.getD 0 0,st.getD 1 0,st.getD 2 0,st.getD 3 0,st.getD 4 0⟩ 80
def pD (ws st:List bX):List bX:=[(oG ws st).a,(oG ws st).b,(oG ws st).c,(oG ws st).d,(oG ws st).e]++st.drop 5
def lC (ws st:List bX):S8:=oU (yM ws 48) ⟨st.getD 0 0,st.getD 1 0,st.getD 2 0,st.getD 3 0,st.getD 4 0,st.getD 5 0,st.getD 6 0,st.getD 7 0⟩ 64
def tT (ws st:List bX):List bX:=[(lC ws st).a,(lC ws st).b,(lC ws st).c,(lC ws st).d,(lC ws st).e,(lC ws st).f,(lC ws st).g,(lC ws st).h]++st.drop 8
def lD (kd:Nat)(ws st:List bX):List bX:=if kd=1 then tR ws st else if kd=2 then pD ws st else tT ws st
def fU (kd:Nat)(st:List bX)(blk:LU):List bX:=List.zipWith (· + ·) (lD kd (rk (kd==1) blk) st) st
def Ek (kd:Nat):List bX:=
 if kd=1 then [0x67452301,0xefcdab89,0x98badcfe,0x10325476,0,0,0,0]
 else if kd=2 then [0x67452301,0xefcdab89,0x98badcfe,0x10325476,0xc3d2e1f0,0,0,0]
 else [0x6a09e667,0xbb67ae85,0x3c6ef372,0xa54ff53a,0x510e527f,0x9b05688c,0x1f83d9ab,0x5be0cd19]
def Ar (m:LU)(i:Nat):LU:=(m.drop (64*i)).take 64
def MI (kd:Nat)(m:LU):Nat→List bX
 | 0=>Ek kd
 | n+1=>fU kd (MI kd m n) (Ar m n)
def cI (kd:Nat)(m:LU):List bX:=MI kd m (m.length / 64)
def jA (m:LU):Nat:=(119-m.length % 64) % 64
def kF (kd:Nat)(n k:Nat):LU:=if kd=1 then C8 n k else GS n k
def np (kd:Nat)(m:LU):LU:=m++[128]++List.replicate (jA m) 0++kF kd (8*m.length) 8
def je (kd:Nat):Nat:=if kd=1 then 4 else if kd=2 then 5 else 8
def fV (kd:Nat)(m:LU):LU:=((cI kd (np kd m)).take (je kd)).flatMap fun x=>kF kd x.toNat 4
theorem xM (ws:List bX){st:List bX}(h:st.length=8):(tR ws st).length=8:=by simp[tR,h]
theorem vh (ws:List bX){st:List bX}(h:st.length=8):(pD ws st).length=8:=by simp[pD,h]
theorem xN (ws:List bX){st:List bX}(h:st.length=8):(tT ws st).length=8:=by simp[tT,h]
theorem tU (kd:Nat)(ws:List bX){st:List bX}(h:st.length=8):(lD kd ws st).length=8:=by
 unfold lD
 split
 ·exact xM ws h
 ·split
  ·exact vh ws h
  ·exact xN ws h
theorem xO (kd:Nat){st:List bX}(blk:LU)(h:st.length=8):(fU kd st blk).length=8:=by simp[fU,tU,h]
theorem GU (kd:Nat):(Ek kd).length=8:=by unfold Ek;split;rfl;split<;>rfl
theorem El (kd:Nat)(m:LU):∀ n,(MI kd m n).length=8
 | 0=>GU kd
 | n+1=>xO kd _ (El kd m n)
theorem gQ (kd:Nat)(m:LU):(cI kd m).length=8:=El kd m _
theorem xP {m r:LU}{i:Nat}(h:64*i+64≤m.length):Ar (m++r) i=Ar m i:=by
 unfold Ar
 rw[List.drop_append_of_le_length (by omega),List.take_append_of_le_length (by simp;omega)]
theorem nr (kd:Nat){m r:LU}:∀ n,64*n≤m.length→MI kd (m++r) n=MI kd m n
 | 0,_=>rfl
 | n+1,h=>by rw[MI,MI,nr kd n (by omega),xP (by omega)]
theorem xQ (kd:Nat){m r:LU}(h:m.length % 64+r.length<64):cI kd (m++r)=cI kd m:=by
 unfold cI
 rw[List.length_append,show(m.length+r.length) / 64=m.length / 64 by omega]
 exact nr kd _ (by omega)
theorem xR (kd:Nat){m r:LU}(h:m.length % 64+r.length=64):cI kd (m++r)=fU kd (cI kd m) (m.drop (m.length / 64*64)++r):=by
 unfold cI
 rw[List.length_append,show(m.length+r.length) / 64=m.length / 64+1 by omega,MI,nr kd _ (by omega)]
 congr 1
 unfold Ar
 rw[List.drop_append_of_le_length (by omega),Nat.mul_comm]
 exact tL (by simp;omega)
def ig (m tl:LU):Prop:=tl.length=64∧tl.take (m.length % 64)=m.drop (m.length / 64*64)
def dN (m tl r:LU):LU:=tl.take (m.length % 64)++(r++tl.drop (m.length % 64+r.length))
theorem qh {m tl r:LU}(h:tl.length=64)(hr:m.length % 64+r.length≤64):(dN m tl r).length=64:=by
 simp[dN,h];omega
theorem ig.zero {m tl:LU}(h:tl.length=64)(hm:m.length % 64=0):ig m tl:=by
 refine⟨h,?_⟩
 rw[hm,List.take_zero,List.drop_eq_nil_of_le (by omega)]
theorem ig.part {m tl r:LU}(h:ig m tl)(hr:m.length % 64+r.length<64):ig (m++r) (dN m tl r):=by
 obtain⟨h1,h2⟩:=h
 refine⟨qh h1 (by omega),?_⟩
 have e1:(m++r).length % 64=m.length % 64+r.length:=by rw[List.length_append];omega
 have e2:(m++r).length / 64=m.length / 64:=by rw[List.length_append];omega
 rw[e1,e2,List.drop_append_of_le_length (by omega),←h2]
 unfold dN
 rw[←List.append_assoc,List.take_append_of_le_length (by simp[h1];omega)]
 exact tL (by simp;omega)
theorem ig.full {m tl r:LU}(h:ig m tl)(hr:m.length % 64+r.length=64):dN m tl r=m.drop (m.length / 64*64)++r:=by
 obtain⟨h1,h2⟩:=h
 unfold dN
 rw[←h2,List.drop_eq_nil_of_le (by omega),List.append_nil]
theorem vi (kd:Nat){m tl r:LU}(h:ig m tl)(hr:m.length % 64+r.length=64):cI kd (m++r)=fU kd (cI kd m) (dN m tl r):=by
 rw[xR kd hr,h.full hr]
section
open Go.ChangeShapes Go.WideShapes Go.Deep Go.RowKit
section
variable {H : Type} {enc : TypeId × Value → H} {w : World} {spare : Nat → Bool}
theorem DD {x:Int}(h:(Lit.int .u8 x).wf=true):∃ c:UInt8,x=(c.toNat:Int):=by
 have hb:0≤x∧x<256:=by
  have h2:(0:Int)≤x∧x≤255:=by
   unfold Lit.wf at h
   rw[Bool.and_eq_true,decide_eq_true_eq,decide_eq_true_eq] at h
   rw[show IntKind.u8.min=0 by kernel_rfl,show IntKind.u8.max=255 by kernel_rfl] at h
   exact h
  omega
 refine⟨UInt8.ofNat x.toNat,?_⟩
 have:x.toNat<256:=by omega
 simp
 omega
theorem DE {fuel:Nat}{v:Value}{d:DataW H×List MemPlace}(h:DataW.trod enc Tryz.prog w 0 spare true fuel 43 [v]=some d):
  ∃ (A:OA) (n c:Nat) (l:LU),v=.slice A n c∧Rd w 1 A n (l.map vb)∧n≤c∧c≤9223372036854775807:=by
 rcases open_slice Tryz.underlying43 h with⟨hcs,_⟩ | ⟨a,len,cap,m,n,D,Pl,hcs,_,hl,hm,hmm,_,hi⟩
 ·injection hcs with hcs _
  exact⟨none,0,0,[],hcs,Rd.nil _ _ _,z0,z0⟩
 ·injection hcs with hcs _
  have hlen:len≤m:=by rw[hmm];split<;>omega
  have key:∀ i,i<len→∃ x:UInt8,w.cell? ⟨a.block,a.off+i,none⟩=some (vb x)∧a.add i=⟨a.block,a.off+i,none⟩:=by
   intro i hi'
   obtain⟨cs',hc,ht'⟩:=hi i (by omega)
   rw[show Tryz.prog.cellsOf 5=1 by kernel_rfl] at hc
   obtain⟨_,hcl,hat⟩:=World.cells?_some hc
   obtain⟨s,hs,_,hsz⟩:=DataW.trod_int Tryz.underlying5 ht'
   have h0:=hat 0 (by omega)
   rw[hs,Nat.mul_one] at h0
   have h1:w.cell? (a.add i)=some (.int .u8 s):=by
    have e:(a.add i).add 0=a.add i:=by simp[Addr.add]
    rw[e] at h0;simpa using h0
   have h2:=md h1
   obtain⟨x,rfl⟩:=DD hsz
   exact⟨x,by rw[←h2];exact h1,h2⟩
  obtain⟨l,hll,hlq⟩:=rq len key
  refine⟨some a,len,cap,l,hcs,⟨by simp[hll],fun hn=>?_⟩,hl,by unfold maxLen at hm;omega⟩
  ·refine⟨a.block,a.off,?_,fun j u hu=>?_⟩
   ·have h2:=(hlq 0 _ (gG (by rw[hll];exact hn))).2
    simp only[Addr.add,if_pos,Nat.add_zero] at h2
    rw[←h2]
   ·simp only[List.getElem?_map,Option.map_eq_some_iff] at hu
    obtain⟨x,hx,rfl⟩:=hu
    exact(hlq j x hx).1
end
end
end Go.Proofs.YtaohgmcbpafdeaaGreatDoor
