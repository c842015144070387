/- A part of the proof. -/
import Derived.Shelf.SlSortCmp.WholeK
import Derived.Test.YtlglfpbhapmhiaaGreatDoorL04
import Derived.Test.YtlglfpbhapmhiaaGreatDoorL06
import Derived.Test.YtlglfpbhapmhiaaGreatDoorL07
set_option maxRecDepth 100000
set_option maxHeartbeats 20000000
set_option linter.unusedVariables false
set_option linter.unusedSimpArgs false
namespace Go.Proofs.YtlglfpbhapmhiaaGreatDoor
variable{a:Act}{ops:Array Oper}{s:BA}{Q:Exit->Act->World->Prop}{r:LU}{xs:LV}{ps:List BA}{N b c cap g i j k m m1 m2 n n2 sz:Nat}{A:OA}{o:Oper}{E T e t:TypeId}{v v':Value}{W w w' wr:World}
abbrev cD:=BitVec 32
def vw (x:cD):Value:=.int .u32 (nv x)
def vb (c:UInt8):Value:=.int .u8 c.toNat
def R9:List cD:=[3614090360,3905402710,606105819,3250441966,4118548399,1200080426,2821735955,4249261313,1770035416,2336552879,4294925233,2304563134,1804603682,4254626195,2792965006,1236535329,4129170786,3225465664,643717713,3921069994,3593408605,38016083,3634488961,3889429448,568446438,3275163606,4107603335,1163531501,2850285829,4243563512,1735328473,2368359562,4294588738,2272392833,1839030562,4259657740,2763975236,1272893353,4139469664,3200236656,681279174,3936430074,3572445317,76029189,3654602809,3873151461,530742520,3299628645,4096336452,1126891415,2878612391,4237533241,1700485571,2399980690,4293915773,2240044497,1873313359,4264355552,2734768916,1309151649,4149444226,3174756917,718787259,3951481745]
def Sa:List cD:=[1116352408,1899447441,3049323471,3921009573,961987163,1508970993,2453635748,2870763221,3624381080,310598401,607225278,1426881987,1925078388,2162078206,2614888103,3248222580,3835390401,4022224774,264347078,604807628,770255983,1249150122,1555081692,1996064986,2554220882,2821834349,2952996808,3210313671,3336571891,3584528711,113926993,338241895,666307205,773529912,1294757372,1396182291,1695183700,1986661051,2177026350,2456956037,2730485921,2820302411,3259730800,3345764771,3516065817,3600352804,4094571909,275423344,430227734,506948616,659060556,883997877,958139571,1322822218,1537002063,1747873779,1955562222,2024104815,2227730452,2361852424,2428436474,2756734187,3204031479,3329325298]
def Ou (i:Nat):cD:=R9.getD i 0
def Qw (i:Nat):cD:=Sa.getD i 0
def rH (i:Nat):Nat:=[7,12,17,22,5,9,14,20,4,11,16,23,6,10,15,21].getD (4*(i / 16)+i % 4) 1
def Il (q:Nat)(b c d:cD):cD:=if q=0 then b &&& c ||| ~~~b &&& d else if q=1 then d &&& b ||| ~~~d &&& c else if q=2 then b ^^^ c ^^^ d else c ^^^ (b ||| ~~~d)
def Lg (q i:Nat):Nat:=if q=0 then i else if q=1 then (5*i+1) % 16 else if q=2 then (3*i+5) % 16 else 7*i % 16
structure S4 where
 a:cD
 b:cD
 c:cD
 d:cD
def GQ (w:List cD)(i:Nat)(s:S4):S4:=⟨s.d,s.b+rl (rH i) (s.a+Il (i / 16) s.b s.c s.d+Ou i+w.getD (Lg (i / 16) i) 0),s.b,s.c⟩
def kS (w:List cD)(s:S4):Nat->S4
 | 0=>s
 | n+1=>GQ w n (kS w s n)
structure S5 where
 a:cD
 b:cD
 c:cD
 d:cD
 e:cD
def xH (q:Nat)(b c d:cD):cD:=if q=0 then b &&& c ||| ~~~b &&& d else if q=1 then b ^^^ c ^^^ d else if q=2 then b &&& c ||| b &&& d ||| c &&& d else b ^^^ c ^^^ d
def oh (q:Nat):cD:=if q=0 then 0x5a827999 else if q=1 then 0x6ed9eba1 else if q=2 then 0x8f1bbcdc else 0xca62c1d6
def Lh (l:List cD)(i:Nat):cD:=rl 1 (l.getD (i-3) 0 ^^^ l.getD (i-8) 0 ^^^ l.getD (i-14) 0 ^^^ l.getD (i-16) 0)
def rI (w:List cD):Nat->List cD
 | 0=>w
 | n+1=>rI w n++[Lh (rI w n) (16+n)]
def AQ (l:List cD)(i:Nat)(s:S5):S5:=⟨rl 5 s.a+xH (i / 20) s.b s.c s.d+s.e+oh (i / 20)+l.getD i 0,s.a,rl 30 s.b,s.c,s.d⟩
def lZ (l:List cD)(s:S5):Nat->S5
 | 0=>s
 | n+1=>AQ l n (lZ l s n)
structure S8 where
 a:cD
 b:cD
 c:cD
 d:cD
 e:cD
 f:cD
 g:cD
 h:cD
def Qf (x:cD):cD:=rr 7 x ^^^ rr 18 x ^^^ x >>> 3
def Qg (x:cD):cD:=rr 17 x ^^^ rr 19 x ^^^ x >>> 10
def Qx (l:List cD)(i:Nat):cD:=l.getD (i-16) 0+Qf (l.getD (i-15) 0)+l.getD (i-7) 0+Qg (l.getD (i-2) 0)
def AR (w:List cD):Nat->List cD
 | 0=>w
 | n+1=>AR w n++[Qx (AR w n) (16+n)]
def zh (l:List cD)(i:Nat)(s:S8):cD:=s.h+(rr 6 s.e ^^^ rr 11 s.e ^^^ rr 25 s.e)+(s.e &&& s.f ^^^ ~~~s.e &&& s.g)+Qw i+l.getD i 0
def DM (s:S8):cD:=(rr 2 s.a ^^^ rr 13 s.a ^^^ rr 22 s.a)+(s.a &&& s.b ^^^ s.a &&& s.c ^^^ s.b &&& s.c)
def GR (l:List cD)(i:Nat)(s:S8):S8:=⟨zh l i s+DM s,s.a,s.b,s.c,s.d+zh l i s,s.e,s.f,s.g⟩
def qG (l:List cD)(s:S8):Nat->S8
 | 0=>s
 | n+1=>GR l n (qG l s n)
theorem Li:∀ i:Nat,i<64->0<rH i/\rH i<32:=by decide
theorem Ov (i:Nat)(hi:i<64):Lg (i / 16) i<16:=by
 unfold Lg;split
 ·omega
 ·split
  ·omega
  ·split<;>omega
section
open Go.RowKit
structure ag where
 path:BA
 kind:Int
 mode:Int
 uid:Int
 gid:Int
 owner:BA
 group:BA
 mtime:Int
 link:BA
 da:OA
 dc:Nat
 data:LU
def ag.cells (x:ag):LV:=[.string x.path,.int .i64 x.kind,.int .i64 x.mode,.int .i64 x.uid,.int .i64 x.gid,.string x.owner,.string x.group,.int .i64 x.mtime,.string x.link,.slice x.da x.data.length x.dc]
def ag.val (x:ag):Value:=.agg #[.string x.path,.int .i64 x.kind,.int .i64 x.mode,.int .i64 x.uid,.int .i64 x.gid,.string x.owner,.string x.group,.int .i64 x.mtime,.string x.link,.slice x.da x.data.length x.dc]
theorem bi (x:ag):x.cells.length=10:=rfl
structure cV (w:World) (A:OA) (l:List ag):Prop where
 row:Rd w 10 A l.length (l.flatMap ag.cells)
 all:∀ x∈l,Rd w 1 x.da x.data.length (x.data.map vb)
theorem cV.below {l:List ag}(h:cV w A l)(hb:Below w.heap.size w w'):cV w' A l:=⟨h.1.below hb,fun x hx=>(h.2 x hx).below hb⟩
structure ag.small (x:ag):Prop where
 path:x.path.size<=1000000
 owner:x.owner.size<=1000000
 group:x.group.size<=1000000
 link:x.link.size<=1000000
 data:x.data.length<=1000000
 cap:x.data.length<=x.dc
 capM:x.dc<=9223372036854775807
def lu (s:BA):Bool:=decide (s.size<=31) && !Lib.containsAny (bl s) [0,10,58]
def jT (s:BA):Bool:=decide (1<=s.size)&&decide (s.size<=200) && !Lib.containsAny (bl s) [0,10]
def fE (x:ag):Bool:=decide (x.mode<0)||decide (4095<x.mode)||decide (x.uid<0)||decide (2097151<x.uid)||decide (x.gid<0)||decide (2097151<x.gid)||decide (x.mtime<0)||decide (8589934591<x.mtime)
def dE (x:ag):Int:=
 if cR (bl x.path)=false then 10 else if x.kind<1\/4<x.kind then 9 else if fE x=true then 1 else if lu x.owner=false\/lu x.group=false then 10
 else if x.kind=3/\jT x.link=false then 10 else if x.kind=4/\(cR (bl x.link)=false\/x.link=x.path) then 10
 else if x.kind≠3/\x.kind≠4/\x.link.size≠0 then 1 else if x.kind≠1/\0<x.data.length then 1 else if 1048576<x.data.length then 4 else 0
def gR (s:BA):Nat->List BA
 | 0=>[]
 | k+1=>if (bl s)[k]?=some 47 then gR s k++[s.extract 0 k] else gR s k
def aV (s:BA):List BA:=gR s s.size
theorem tK (s:BA):∀ k,(gR s k).length<=k
 | 0=>Nat.le_refl _
 | k+1=>by
  have:=tK s k;unfold gR;split
  ·rw[List.length_append];simp;exact this
  ·omega
theorem qH (s:BA):∀ k,∀ x∈gR s k,x.size<=s.size
 | 0,x,h=>by simp[gR] at h
 | k+1,x,h=>by
  unfold gR at h;split at h
  ·rcases List.mem_append.1 h with h | h
   ·exact qH s k x h
   ·rw[List.mem_singleton.1 h,ByteArray.size_extract];omega
  ·exact qH s k x h
theorem Lj (hk:k<s.size)(h:s[k]=47):gR s (k+1)=gR s k++[s.extract 0 k]:=by
 rw[gR,if_pos (by rw[dQ s k hk,h])]
theorem Im (hk:k<s.size)(h:¬ s[k]=47):gR s (k+1)=gR s k:=by
 rw[gR,if_neg (by rw[dQ s k hk];intro e;injection e with e;exact h e)]
theorem tM (s:BA):(aV s).length<=s.size:=tK s _
theorem rJ {x:BA}(h:x∈aV s):x.size<=s.size:=qH s _ x h
def jm (ps:List BA)(s:BA):Bool:=ps.any fun t=>decide (t=s)
theorem jU :jm ps s=true↔s∈ps:=by
 unfold jm;rw[List.any_eq_true];exact⟨fun ⟨t,ht,he⟩=>by rw[<-dO he];exact ht,fun h=>⟨s,h,dT rfl⟩⟩
theorem mH (ps qs:List BA)(s:BA):jm (ps++qs) s=(jm ps s||jm qs s):=by unfold jm;rw[List.any_append]
theorem AS (t s:BA):jm [t] s=decide (t=s):=by simp[jm]
def gh (x y:ag):Bool:=(x.mode==y.mode)&&((x.uid==y.uid)&&((x.gid==y.gid)&&((x.owner.toList==y.owner.toList)&&((x.group.toList==y.group.toList)&&(x.mtime==y.mtime)))))
def cT (l:List ag)(s:BA):Option ag:=l.find? fun y=>decide (y.path=s)
def fW (pre:List ag)(x:ag):Int:=match cT pre x.link with
 | none=>15
 | some y=>if y.kind≠1 then 15 else if gh x y=false then 1 else 0
def mD (pre:List ag)(x:ag):Int:=
 if dE x≠0 then dE x else if (cT pre x.path).isSome then 8 else if x.kind=4/\fW pre x≠0 then fW pre x
 else if (aV x.path).any (fun s=>(cT pre s).any fun y=>decide (y.kind≠2)) then 9
 else if x.kind≠2/\pre.any (fun y=>jm (aV y.path) x.path) then 9 else 0
def fX:List ag->List ag->Nat×Int
 | _,[]=>(0,0)
 | pre,x::r=>if mD pre x=0 then fX (pre++[x]) r else (pre.length,mD pre x)
theorem In {l:List ag}{x:ag}(h:l[k]?=some x)(h0:fX [] l=fX (l.take k) (l.drop k))(he:mD (l.take k) x=0):fX [] l=fX (l.take (k+1)) (l.drop (k+1)):=by
 obtain⟨hk,hf⟩:=gS h;rw[h0,List.drop_eq_getElem_cons hk,hf,fX,if_pos he,tS hk,hf]
theorem Lk {l:List ag}{x:ag}(h:l[k]?=some x)(h0:fX [] l=fX (l.take k) (l.drop k))(he:mD (l.take k) x≠0):fX [] l=(k,mD (l.take k) x):=by
 obtain⟨hk,hf⟩:=gS h;rw[h0,List.drop_eq_getElem_cons hk,hf,fX,if_neg he,List.length_take];congr 1;omega
theorem Ll {l:List ag}(hk:l.length<=k)(h0:fX [] l=fX (l.take k) (l.drop k)):fX [] l=(0,0):=by
 rw[h0,List.drop_of_length_le hk];rfl
def nF (l:List ag):Nat×Int:=if 4096<l.length then (4096,4) else fX [] l
end
section
open Go.RowKit Go.Maps
def dt:List ag->BA->Option Nat
 | [],_=>none
 | x::r,s=>if x.path=s then some 0 else (dt r s).map (· + 1)
theorem jZ:∀ (l:List ag)(s:BA),(dt l s=none/\cT l s=none)\/∃ i y,dt l s=some i/\l[i]?=some y/\cT l s=some y/\y.path=s
 | [],s=>.inl ⟨rfl,rfl⟩
 | x::r,s=>by
  by_cases h:x.path=s
  ·exact .inr ⟨0,x,by rw[dt,if_pos h],rfl,by unfold cT;rw[List.find?_cons_of_pos (by simpa using h)],h⟩
  ·have hf:cT (x::r) s=cT r s:=by unfold cT;rw[List.find?_cons_of_neg (by simpa using h)]
   rcases jZ r s with⟨h1,h2⟩ | ⟨i,y,h1,h2,h3,h4⟩
   ·exact .inl ⟨by rw[dt,if_neg h,h1];rfl,by rw[hf];exact h2⟩
   ·exact .inr ⟨i+1,y,by rw[dt,if_neg h,h1];rfl,by simpa using h2,by rw[hf];exact h3,h4⟩
theorem ui:∀ (l:List ag)(x:ag)(s:BA),dt l x.path=none->dt (l++[x]) s=if s=x.path then some l.length else dt l s
 | [],x,s,_=>by
  simp only[List.nil_append,dt,List.length_nil,Option.map_none];by_cases h:s=x.path
  ·rw[if_pos h,if_pos h.symm]
  ·rw[if_neg h,if_neg (fun e=>h e.symm)]
 | y::r,x,s,hn=>by
  have hy:¬ y.path=x.path:=fun e=>by rw[dt,if_pos e] at hn;cases hn
  have hr:dt r x.path=none:=by
   rw[dt,if_neg hy] at hn;cases h:dt r x.path with
   | none=>rfl
   | some i=>rw[h] at hn;cases hn
  rw[List.cons_append,dt,dt,ui r x s hr];by_cases h:s=x.path
  ·rw[if_pos h,if_neg (fun e=>hy (e.trans h)),if_pos h];rfl
  ·rw[if_neg h,if_neg h]
def QH (l:List ag)(s:BA):Option Value:=(dt l s).map fun i=>.int .i64 i
theorem LC {l:List ag}{x:ag}(h:dt l x.path=none):QH (l++[x])=fun s=>if s=x.path then some (.int .i64 l.length) else QH l s:=by
 funext s
 unfold QH;rw[ui l x s h];by_cases e:s=x.path
 ·rw[if_pos e,if_pos e];rfl
 ·rw[if_neg e,if_neg e]
def mN (l:List ag)(s:BA):Bool:=l.any fun y=>jm (aV y.path) s
structure wu (w:World) (m n:Nat) (l:List ag) (ps:List BA):Prop where
 ex:∃ g,bm w m n g/\∀ s,(g s).isSome=(mN l s||jm ps s)
theorem wu.below {l:List ag}(h:wu w m n l ps)(hb:Below w.heap.size w w'):wu w' m n l ps:=by
 obtain⟨g,h1,h2⟩:=h.ex;exact⟨g,h1.below hb,h2⟩
theorem wu.kept {l:List ag}{row:Option Nat}(h:wu w m n l ps)(hg:w.grownBy w' row)(hne:some m≠row):wu w' m n l ps:=by
 obtain⟨g,h1,h2⟩:=h.ex;exact⟨g,h1.kept hg hne,h2⟩
theorem wu.lt {l:List ag}(h:wu w m n l ps):m<w.heap.size:=by
 obtain⟨g,h1,_⟩:=h.ex;exact h1.lt
theorem wu.made (w:World):wu (w.alloc (.map #[] 0)) w.heap.size 0 [] []:=⟨_,bm.made w,fun s=>rfl⟩
theorem wu.next {l:List ag}{x:ag}(h:wu w m n l (aV x.path)):wu w m n (l++[x]) []:=by
 obtain⟨g,h1,h2⟩:=h.ex;refine⟨g,h1,fun s=>?_⟩;rw[h2];simp[mN,jm]
theorem wu.put {l:List ag}(h:wu w m n l ps)(ht:Tryz.prog.underlying t=some (.map 9 e))(hn:n<maxLen)(s:BA)(hs:s.size<=maxLen)(v:Value):
  ∃ w',(Instr.mapUpdate t (.map (some m)) (.string s) v).run Tryz.prog w=.ok () w'/\wu w' m (n+1) l (ps++[s])/\w.grownBy w' (some m):=by
 obtain⟨g,h1,h2⟩:=h.ex;obtain⟨w',hr,hm,hg⟩:=h1.put ht hn s hs v;refine⟨w',hr,⟨_,hm,fun x=>?_⟩,hg⟩;by_cases e:x=s
 ·subst e;rw[mH,AS];simp
 ·simp only[if_neg e];rw[h2,mH,AS,dF (fun h=>e h.symm),Bool.or_false]
theorem wu.look {l:List ag}(h:wu w m n l ps)(ht:Tryz.prog.underlying t=some (.map 9 e)){z:Value}(hz:∀ w,(zeroValue e).run Tryz.prog w=.ok z w)(s:BA)(hs:s.size<=maxLen):
  ∃ v,∀ k,(Instr.lookup t (.map (some m)) (.string s) true).run Tryz.prog (w.drewN k)=.ok (.tuple #[v,.bool (mN l s||jm ps s)]) (w.drewN k):=by
 obtain⟨g,h1,h2⟩:=h.ex;refine⟨(g s).getD z,fun k=>?_⟩;rw[<-h2];exact(h1.below (show Below w.heap.size w (w.drewN k) from⟨rfl,rfl,rfl,lr,fun _ _=>rfl⟩)).look_ok ht hz s hs
structure ke (w:World) (c m1 m2 n2:Nat) (v:Value) (l:List ag) (ps:List BA):Prop where
 blk:ax w c [v,.map (some m1),.map (some m2)]
 one:bm w m1 l.length (QH l)
 two:wu w m2 n2 l ps
theorem ke.below {l:List ag}(h:ke w c m1 m2 n2 v l ps)(hb:Below w.heap.size w w'):ke w' c m1 m2 n2 v l ps:=⟨h.blk.below hb,h.one.below hb,h.two.below hb⟩
theorem ke.drewN {l:List ag}(h:ke w c m1 m2 n2 v l ps)(k:Nat):ke (w.drewN k) c m1 m2 n2 v l ps:=h.below ⟨rfl,rfl,rfl,lr,fun _ _=>rfl⟩
theorem uj (w:World):(zeroValue 3).run Tryz.prog w=.ok (.int .i64 0) w:=by kernel_rfl
theorem ke.look1 {l:List ag}(h:ke w c m1 m2 n2 v l ps)(s:BA)(hs:s.size<=maxLen)(k:Nat):
  (Instr.lookup 104 (.map (some m1)) (.string s) true).run Tryz.prog (w.drewN k)=.ok (.tuple #[.int .i64 ((dt l s).getD 0:Nat),.bool (dt l s).isSome]) (w.drewN k):=by
 have h1:=(h.drewN k).one.look_ok Tryz.underlying104 uj s hs;rw[h1];unfold QH;cases dt l s<;>rfl
theorem ke.look2 {l:List ag}(h:ke w c m1 m2 n2 v l [])(s:BA)(hs:s.size<=maxLen):
  ∃ z,∀ k,(Instr.lookup 104 (.map (some m2)) (.string s) true).run Tryz.prog (w.drewN k)=.ok (.tuple #[z,.bool (mN l s)]) (w.drewN k):=by
 obtain⟨z,hz⟩:=h.two.look Tryz.underlying104 uj s hs;refine⟨z,fun k=>?_⟩;rw[hz k];simp[jm]
end
section
open Go.RowKit
theorem fU {p:UInt8->Bool}{a:UInt8}(h:p a=false):aE p (a::r)=0:=by simp[aE,h]
theorem nH {p:UInt8->Bool}:∀ (l:LU),aE p l<l.length->∃ a r,l.drop (aE p l)=a::r/\p a=false
 | [],h=>by simp at h
 | a::r,h=>by
  cases hp:p a with
  | false=>exact⟨a,r,by rw[fU hp];rfl,hp⟩
  | true=>
   have e:aE p (a::r)=aE p r+1:=by simp[aE,hp]
   rw[e] at h |-;simpa using nH r (by simpa using h)
end
def dg (n j:Nat):UInt8:=UInt8.ofNat (n / 256 ^ j)
def FO (n k:Nat):LU:=(List.range k).map (dg n)
def JS (n k:Nat):LU:=(FO n k).reverse
theorem mr (n k:Nat):(FO n k).length=k:=by simp[FO]
theorem qm (n k:Nat):(JS n k).length=k:=by simp[JS,mr]
theorem CI (n k:Nat):FO n (k+1)=FO n k++[dg n k]:=by simp[FO,List.range_succ]
theorem MJ (n k:Nat):JS n (k+1)=dg n k::JS n k:=by simp[JS,CI]
def yG (l:LU):Nat:=l.foldl (fun n c=>n*256+c.toNat) 0
def Lc (l:LU):Nat:=yG l.reverse
theorem MK (l:LU)(c:UInt8):yG (l++[c])=yG l*256+c.toNat:=by simp[yG]
theorem CJ (c:UInt8)(l:LU):yG (c::l)=c.toNat*256 ^ l.length+yG l:=by
 have h:∀ (l:LU)(n:Nat),l.foldl (fun n c=>n*256+c.toNat) n=n*256 ^ l.length+yG l:=by
  intro l
  induction l with
  | nil=>intro n;simp[yG]
  | cons a r ih=>
   intro n;unfold yG;rw[List.foldl_cons,List.foldl_cons,ih,ih,List.length_cons,Nat.pow_succ,Nat.zero_mul,Nat.zero_add];have:(n*256+a.toNat)*256 ^ r.length=n*(256 ^ r.length*256)+a.toNat*256 ^ r.length:=by rw[Nat.add_mul,Nat.mul_assoc,Nat.mul_comm 256]
   omega
 show(c::l).foldl _ 0=_;rw[List.foldl_cons,h];simp
theorem MM (l:LU)(c:UInt8):Lc (l++[c])=Lc l+c.toNat*256 ^ l.length:=by
 unfold Lc;rw[List.reverse_append];show yG (c::l.reverse)=_;rw[CJ,List.length_reverse];omega
theorem FS (l:LU):yG l<256 ^ l.length:=by
 induction l with
 | nil=>simp[yG]
 | cons c r ih=>
  rw[CJ,List.length_cons,Nat.pow_succ];have:=c.toNat_lt;have h2:c.toNat*256 ^ r.length<=255*256 ^ r.length:=Nat.mul_le_mul_right _ (by omega);omega
theorem FT (l:LU):Lc l<256 ^ l.length:=by have:=FS l.reverse;rwa [List.length_reverse] at this
def FU (low:Bool)(blk:LU)(i:Nat):cD:=BitVec.ofNat 32 (if low then Lc ((blk.drop (4*i)).take 4) else yG ((blk.drop (4*i)).take 4))
def tC (low:Bool)(blk:LU):List cD:=(List.range 16).map (FU low blk)
def vF (ws st:List cD):List cD:=
 [(kS ws ⟨st.getD 0 0,st.getD 1 0,st.getD 2 0,st.getD 3 0⟩ 64).a,(kS ws ⟨st.getD 0 0,st.getD 1 0,st.getD 2 0,st.getD 3 0⟩ 64).b,(kS ws ⟨st.getD 0 0,st.getD 1 0,st.getD 2 0,st.getD 3 0⟩ 64).c,(kS ws ⟨st.getD 0 0,st.getD 1 0,st.getD 2 0,st.getD 3 0⟩ 64).d]++st.drop 4
def qn (ws st:List cD):S5:=lZ (rI ws 64) ⟨st.getD 0 0,st.getD 1 0,st.getD 2 0,st.getD 3 0,st.getD 4 0⟩ 80
def rn (ws st:List cD):List cD:=[(qn ws st).a,(qn ws st).b,(qn ws st).c,(qn ws st).d,(qn ws st).e]++st.drop 5
def ni (ws st:List cD):S8:=qG (AR ws 48) ⟨st.getD 0 0,st.getD 1 0,st.getD 2 0,st.getD 3 0,st.getD 4 0,st.getD 5 0,st.getD 6 0,st.getD 7 0⟩ 64
def vG (ws st:List cD):List cD:=[(ni ws st).a,(ni ws st).b,(ni ws st).c,(ni ws st).d,(ni ws st).e,(ni ws st).f,(ni ws st).g,(ni ws st).h]++st.drop 8
def nj (kd:Nat)(ws st:List cD):List cD:=if kd=1 then vF ws st else if kd=2 then rn ws st else vG ws st
def im (kd:Nat)(st:List cD)(blk:LU):List cD:=List.zipWith (· + ·) (nj kd (tC (kd==1) blk) st) st
def Hp (kd:Nat):List cD:=
 if kd=1 then [0x67452301,0xefcdab89,0x98badcfe,0x10325476,0,0,0,0]
 else if kd=2 then [0x67452301,0xefcdab89,0x98badcfe,0x10325476,0xc3d2e1f0,0,0,0]
 else [0x6a09e667,0xbb67ae85,0x3c6ef372,0xa54ff53a,0x510e527f,0x9b05688c,0x1f83d9ab,0x5be0cd19]
def CQ (m:LU)(i:Nat):LU:=(m.drop (64*i)).take 64
def Qn (kd:Nat)(m:LU):Nat->List cD
 | 0=>Hp kd
 | n+1=>im kd (Qn kd m n) (CQ m n)
def de (kd:Nat)(m:LU):List cD:=Qn kd m (m.length / 64)
def ld (m:LU):Nat:=(119-m.length % 64) % 64
def lf (kd:Nat)(n k:Nat):LU:=if kd=1 then FO n k else JS n k
def pe (kd:Nat)(m:LU):LU:=m++[128]++List.replicate (ld m) 0++lf kd (8*m.length) 8
def fL (kd:Nat):Nat:=if kd=1 then 4 else if kd=2 then 5 else 8
def dY (kd:Nat)(m:LU):LU:=((de kd (pe kd m)).take (fL kd)).flatMap fun x=>lf kd x.toNat 4
theorem Af (ws:List cD){st:List cD}(h:st.length=8):(vF ws st).length=8:=by simp[vF,h]
theorem xx (ws:List cD){st:List cD}(h:st.length=8):(rn ws st).length=8:=by simp[rn,h]
theorem Ag (ws:List cD){st:List cD}(h:st.length=8):(vG ws st).length=8:=by simp[vG,h]
theorem vH (kd:Nat)(ws:List cD){st:List cD}(h:st.length=8):(nj kd ws st).length=8:=by
 unfold nj;split
 ·exact Af ws h
 ·split
  ·exact xx ws h
  ·exact Ag ws h
theorem Ah (kd:Nat){st:List cD}(blk:LU)(h:st.length=8):(im kd st blk).length=8:=by simp[im,vH,h]
theorem JT (kd:Nat):(Hp kd).length=8:=by unfold Hp;split;rfl;split<;>rfl
theorem Hq (kd:Nat)(m:LU):∀ n,(Qn kd m n).length=8
 | 0=>JT kd
 | n+1=>Ah kd _ (Hq kd m n)
theorem gN (kd:Nat)(m:LU):(de kd m).length=8:=Hq kd m _
theorem Ai {m:LU}(h:64*i+64<=m.length):CQ (m++r) i=CQ m i:=by
 unfold CQ;rw[List.drop_append_of_le_length (by omega),List.take_append_of_le_length (by simp;omega)]
theorem pg (kd:Nat){m r:LU}:∀ n,64*n<=m.length->Qn kd (m++r) n=Qn kd m n
 | 0,_=>rfl
 | n+1,h=>by rw[Qn,Qn,pg kd n (by omega),Ai (by omega)]
theorem Aj (kd:Nat){m:LU}(h:m.length % 64+r.length<64):de kd (m++r)=de kd m:=by
 unfold de;rw[List.length_append,show(m.length+r.length) / 64=m.length / 64 by omega];exact pg kd _ (by omega)
theorem Ak (kd:Nat){m:LU}(h:m.length % 64+r.length=64):de kd (m++r)=im kd (de kd m) (m.drop (m.length / 64*64)++r):=by
 unfold de;rw[List.length_append,show(m.length+r.length) / 64=m.length / 64+1 by omega,Qn,pg kd _ (by omega)];congr 1;unfold CQ;rw[List.drop_append_of_le_length (by omega),Nat.mul_comm];exact tL (by simp;omega)
section
open Go.RowKit
theorem gO {a:World}(h:∃ n,w=a.drewN n)(m:Nat):∃ n,w.drewN m=a.drewN n:=by
 obtain⟨n,rfl⟩:=h;exact⟨n+m,World.drewN_drewN _ _ _⟩
theorem kN (b o j:Nat):(⟨b,o,none⟩:Addr).add j=⟨b,o+j,none⟩:=by unfold Addr.add;split<;>simp_all
theorem vI (b j:Nat):(⟨b,0,none⟩:Addr).add j=⟨b,j,none⟩:=by rw[kN,Nat.zero_add]
theorem ax.setN {b:Nat}(post:LV):∀ (cs old pre:LV)(wr:World),cs.length=old.length->ax wr b (pre++(old++post))->ax (wr.setCells b pre.length cs) b (pre++(cs++post))
 | [],[],_,_,_,h=>h
 | c::cr,o::r,pre,wr,hl,h=>by
  have h1:=h.set pre.length (by simp) c;rw[List.set_append_right _ _ lr,Nat.sub_self] at h1;have h2:ax (wr.setCell ⟨b,pre.length,none⟩ c) b ((pre++[c])++(r++post)):=by simpa using h1
  have h3:=ax.setN post cr r (pre++[c]) _ (by simpa using hl) h2;rw[World.setCells];simpa using h3
 | [],_::_,_,_,hl,_=>by simp at hl
 | _::_,[],_,_,hl,_=>by simp at hl
theorem eY {g:Nat}:∀ (cs:LV)(o:Nat)(a w:World),a.grownBy w (some g)->a.grownBy (w.setCells g o cs) (some g)
 | [],_,_,_,h=>h
 | c::r,o,a,w,h=>eY r (o+1) a _ (ap h (p:=⟨g,o,none⟩) (.inl rfl) c)
theorem jM {sl sc dl dc:Nat}{pre old post:LV}(hb:ax w b (pre++(old++post))){T2:TypeId}(ty:TypeId)(hu:Tryz.prog.underlying T=some (.slice e))(hs:(Tryz.prog.info? e).map (·.size)=some 1){off:Nat}(hoff:off=pre.length){a:Addr}(cs:LV)(hn:cs.length=Nat.min sl dl)(hl:cs.length=old.length)(hcn:cs.length=n)
  (hsrc:∀ j v,cs[j]?=some v->w.cell? (a.add j)=some v)(h1:∀ v∈cs,v.oneCell'=true):
  (Builtin.copy_ #[T,T2] ty #[.slice (some ⟨b,off,none⟩) dl dc,.slice (some a) sl sc]).run Tryz.prog w=.ok (.int .i64 n) (w.setCells b off cs):=by
 subst hoff hcn;refine run_copy_cells w T T2 ty e b pre.length dl dc a sl sc cs hu hs hn hsrc (fun j hj=>?_) (fun j hj=>hb.free _ (by simp;omega)) h1;have:(pre++(old++post))[pre.length+j]?=some (old[j]'(by omega)):=by
  rw[List.getElem?_append_right (by omega),Nat.add_sub_cancel_left,List.getElem?_append_left (by omega),gG (by omega)]
 rw[hb.cell _ _ this];rfl
theorem nk (w:World){rest:List Oper}(hgd:o.guard=none)(d s:Operand)(t t':TypeId)
  (ho:o.op=.call { callee:=.builtin .copy,args:=#[d,s],argTypes:=#[t,t'] })(v u:Value)(hd:a.eval d=v)(hs:a.eval s=u)
  (hr:∀ ty,(Builtin.copy_ #[t,t'] ty #[v,u]).run Tryz.prog w=.ok v' w')(h:wpList Tryz.prog ops Q rest (a.put o.dst v') w'):wpList Tryz.prog ops Q (o::rest) a w:=by
 refine wpList_plain hgd fun K hK=>?_;unfold Oper.wp execOp;simp only[ho,resolve,invoke,builtin,Sem.run_bind,Sem.run_pure,Result.andThen_ok,List.map_toArray,List.map_cons,List.map_nil,hd,hs,hr];exact hK _ _ h
theorem mu {K:Act->World->Prop}{E:Prop}(hgd:o.guard=none)(d s:Operand)(t t':TypeId)
  (ho:o.op=.call { callee:=.builtin .copy,args:=#[d,s],argTypes:=#[t,t'] })(v u:Value)(hd:a.eval d=v)(hs:a.eval s=u)
  (hr:∀ ty,(Builtin.copy_ #[t,t'] ty #[v,u]).run Tryz.prog w=.ok v' w')(h:K (a.put o.dst v') w'):if Region.wanted o (yielded ops a.tmps)=true then Oper.wp Tryz.prog o a w K Q else E:=by
 have hw:Region.wanted o (yielded ops a.tmps)=true:=by simp[Region.wanted,hgd]
 rw[if_pos hw];unfold Oper.wp execOp;simp only[ho,resolve,invoke,builtin,Sem.run_bind,Sem.run_pure,Result.andThen_ok,List.map_toArray,List.map_cons,List.map_nil,hd,hs,hr];exact h
def JU (kv:Value)(s:S5)(rest:LV):LV:=kv::vw s.a::vw s.b::vw s.c::vw s.d::vw s.e::rest
def kz (n:Nat)(l:List cD):LV:=l.map vw++List.replicate (n-l.length) (vw 0)
theorem lO {l:List cD}(h:l.length<=n):(kz n l).length=n:=by simp[kz];omega
theorem vJ (n:Nat){l:List cD}(h:i<l.length):(kz n l)[i]?=some (vw (l.getD i 0)):=by
 unfold kz;rw[List.getElem?_append_left (by simpa using h),List.getElem?_map,gG h,List.getD_eq_getElem?_getD,gG h];rfl
theorem vK {l:List cD}(h:l.length<n):(kz n l)[l.length]?=some (vw 0):=by
 unfold kz;rw[List.getElem?_append_right (by simp),List.length_map,Nat.sub_self,List.getElem?_replicate,if_pos (by omega)]
theorem vL {l:List cD}(h:l.length<n)(x:cD):(kz n l).set l.length (vw x)=kz n (l++[x]):=by
 unfold kz;rw[List.set_append_right _ _ (by simp),List.length_map,Nat.sub_self,show n-l.length=(n-(l++[x]).length)+1 by simp;omega,List.replicate_succ];simp
theorem cI {n g:Nat}{a:World}:∀ (cs:LV)(o:Nat){w:World},Below n a w->n<=g->Below n a (w.setCells g o cs)
 | [],_,_,h,_=>h
 | c::r,o,_,h,hg=>cI r (o+1) (h.setCell (p:=⟨g,o,none⟩) hg c) hg
theorem yH {W1:World}{hb:Nat}{Z:Array Value}{ws:List cD}{hc:LV}(hZ:Z=(List.replicate N (vw 0)).toArray)(hN:16<=N)(L1:Below w.heap.size w W1)(S1:W1.heap.size=w.heap.size+1)(hw:ws.length=16)(X1:ax W1 w.heap.size (ws.map vw))(HB:ax W1 hb hc)(hl:hb<w.heap.size):
  ∃ W2,(∀ ty,(Builtin.copy_ #[143,143] ty #[.slice (some ⟨w.heap.size+1,0,none⟩) N N,.slice (some ⟨w.heap.size,0,none⟩) 16 16]).run Tryz.prog ((W1.alloc (.cells Z T)).drew)=.ok (.int .i64 (16:Nat)) W2)/\Hid (ax W2 hb hc)/\Hid (ax W2 (w.heap.size+1) (kz N ws))/\Hid (Below w.heap.size w W2):=by
 subst hZ;have e16:(ws.map vw).length=16:=by rw[List.length_map];exact hw
 have hz:ax ((W1.alloc (.cells (List.replicate N (vw 0)).toArray T)).drew) (w.heap.size+1) ([]++(List.replicate 16 (vw 0)++List.replicate (N-16) (vw 0))):=by
  rw[<-S1,List.nil_append,List.replicate_append_replicate,show 16+(N-16)=N by omega];exact(ax.new W1 (List.replicate N (vw 0)) T).drew
 refine⟨((W1.alloc (.cells (List.replicate N (vw 0)).toArray T)).drew).setCells (w.heap.size+1) 0 (ws.map vw),fun ty=>jM hz ty Tryz.underlying143 (by kernel_rfl) rfl (ws.map vw) (by rw[e16];exact(Nat.min_eq_left hN).symm) (by rw[e16];simp) e16 (fun j v hj=>by rw[vI];exact((X1.alloc _).drew).cell j v hj) (fun v hv=>by obtain⟨x,_,rfl⟩:=List.mem_map.1 hv;rfl),?_,?_,?_⟩
 ·exact ax.belowN (wr:=(W1.alloc (.cells (List.replicate N (vw 0)).toArray T)).drew) ((HB.alloc _).drew) (n:=w.heap.size+1) (cI (ws.map vw) 0 bR lr) (by omega)
 ·have:=ax.setN (List.replicate (N-16) (vw 0)) (ws.map vw) (List.replicate 16 (vw 0)) [] _ (by rw[e16];simp) hz;simpa [Hid,kz,hw] using this
 ·exact cI (ws.map vw) 0 (am (L1.alloc L1.size _) 1) (by omega)
theorem jh {u:Value}(h:wr.cell? ⟨b,m,none⟩=some u)(hne:¬ k=m):((wr.setCell ⟨b,k,none⟩ v).drew).cell? ⟨b,m,none⟩=some u:=by
 show(wr.setCell ⟨b,k,none⟩ v).cell? ⟨b,m,none⟩=some u;rw[World.cell?_setCell_other _ _ _ _ (by intro h;injection h with _ h;exact hne h)];exact h
theorem ji {l:List cD}(h:ax wr b (kz N l))(hl:l.length=k)(q:Nat)(qi NI:Int)(hqi:qi=q)(hNI:NI=N)(hq:0<q)(hq2:q<=k)(hkN:k<=N)(hkM:k<=1000):
  ∃ m:Nat,(k:Int)-qi=(m:Int)/\IntKind.i64.wrap (m:Int)=(m:Int)/\(m:Int)<NI/\¬ k=m/\¬ m=k/\∃ x,Hid (l.getD (k-q) 0=x)/\wr.cell? ⟨b,m,none⟩=some (vw x):=by
 have e:(k:Int)-qi=((k-q:Nat):Int):=by omega
 refine⟨k-q,e,?_,by omega,by omega,by omega,_,rfl,?_⟩
 ·exact IntWalk.i64_in _ (by omega)
 ·exact h.cell _ _ (vJ N (by omega))
theorem nQ {ls:List cD}{s0:S5}{q:Nat}{ya yb yc yd ye f x s:cD}(h:lZ ls s0 k=⟨ya,yb,yc,yd,ye⟩)(hq:k / 20=q)(hx:ls.getD k 0=x)(hf:f=xH q yb yc yd)(hs:s=rl 5 ya+f+ye+oh q+x):
  lZ ls s0 (k+1)=⟨s,ya,rl 30 yb,yc,yd⟩:=by
 rw[lZ,h,AQ,hq,hx,hs,hf]
theorem JV (hb:Nat)(x0 x1 x2 x3 x4 x5 x6 x7 x8 x9 x10 x11 x12 x13 x14 x15 a b c d e0:cD)(kv:Value)(rest:LV)(w:World)
  (hB:ax w hb (kv::vw a::vw b::vw c::vw d::vw e0::rest)):Calls Tryz.prog 139 #[.pointer (some ⟨hb,0,none⟩),.agg #[vw x0,vw x1,vw x2,vw x3,vw x4,vw x5,vw x6,vw x7,vw x8,vw x9,vw x10,vw x11,vw x12,vw x13,vw x14,vw x15]] w fun e w'=>e=.returned (.tuple #[]) /\
   ax w' hb (JU kv (lZ (rI [x0,x1,x2,x3,x4,x5,x6,x7,x8,x9,x10,x11,x12,x13,x14,x15] 64) ⟨a,b,c,d,e0⟩ 80) rest)/\w.grownBy w' (some hb):=by
 obtain⟨ws,hws⟩:∃ ws,ws=[x0,x1,x2,x3,x4,x5,x6,x7,x8,x9,x10,x11,x12,x13,x14,x15]:=⟨_,rfl⟩
 have hwl:ws.length=16:=by rw[hws];rfl
 obtain⟨W1,hW1⟩:∃ W1,w.alloc (.cells #[vw x0,vw x1,vw x2,vw x3,vw x4,vw x5,vw x6,vw x7,vw x8,vw x9,vw x10,vw x11,vw x12,vw x13,vw x14,vw x15] 180)=W1:=⟨_,rfl⟩
 have L1:Hid (Below w.heap.size w W1):=by show Below _ _ _;rw[<-hW1];exact bR.alloc lr _
 have X1:Hid (ax W1 w.heap.size (ws.map vw)):=by show ax _ _ _;rw[<-hW1,hws];exact ax.new w _ _
 have S1:W1.heap.size=w.heap.size+1:=by rw[<-hW1];simp
 have HBL:Hid (hb<w.heap.size):=hB.sz;have HB:=ae (hB.below L1.out);have HWS:=ae hws;have HWL:=ae hwl;clear hB hws hwl;unfold vw at hW1 |-;go_in;go_wp2_with fail;obtain⟨W2,hcp,HB2,X2,L2⟩:=yH (Z:=Tryz.zeroCells240) (T:=240) (N:=80) (by kernel_rfl) (by decide) L1.out S1 HWL.out X1.out HB.out HBL.out;clear S1;go_region_law (refine mu rfl (.tmp 15) (.tmp 16) 143 143 rfl _ _ rfl rfl hcp ?_);clear hcp;go_wp2;go_loopw [5] (fun i wr=>∃ (k:Nat) (l:List cD),16<=k/\k<=80/\i=.int .i64 k/\Hid (l.length=k/\∃ n,k=16+n/\l=rI ws n)/\Hid (ax wr (w.heap.size+1) (kz 80 l))/\Hid (ax wr hb (kv::vw a::vw b::vw c::vw d::vw e0::rest))/\Hid (Below w.heap.size w wr)) (fun i _=>80-(intOf i).toNat)
 case atStart=>exact⟨16,ws,by omega,by omega,rfl,⟨HWL.out,0,rfl,rfl⟩,X2,HB2,L2⟩
 case round=>
  obtain⟨k,l,hk16,hk,rfl,HL,HX,HH,HBel⟩:=hrel;by_cases hlt:k<80
  ·obtain⟨m3,e3,i3,n3,ne3,nf3,z3,hz3,c3⟩:=ji HX.out HL.out.1 3 3 80 rfl rfl (by omega) (by omega) hk (by omega);obtain⟨m8,e8,i8,n8,ne8,nf8,z8,hz8,c8⟩:=ji HX.out HL.out.1 8 8 80 rfl rfl (by omega) (by omega) hk (by omega);obtain⟨m14,e14,i14,n14,ne14,nf14,z14,hz14,c14⟩:=ji HX.out HL.out.1 14 14 80 rfl rfl (by omega) (by omega) hk (by omega);obtain⟨m16,e16,i16,n16,ne16,nf16,z16,hz16,c16⟩:=ji HX.out HL.out.1 16 16 80 rfl rfl (by omega) (by omega) hk (by omega);have hki:(k:Int)<80:=by omega
   have ck:=HX.out.cell k _ (by have:=vK (n:=80) (l:=l) (by rw[HL.out.1];exact hlt);rwa [HL.out.1] at this);have fk:=HX.out.free k (by rw[lO (by rw[HL.out.1];omega)];exact hlt);obtain⟨t1,h1,H1⟩:=it z3 z8;obtain⟨t2,h2,H2⟩:=it t1 z14;obtain⟨t3,h3,H3⟩:=it t2 z16;have HT:Hid (rl 1 t3=Lh l k):=by show _=_;unfold Lh;rw[H3.out,H2.out,H1.out,hz3.out,hz8.out,hz14.out,hz16.out]
   have HX2:Hid (ax (wr.setCell ⟨w.heap.size+1,k,none⟩ (vw (rl 1 t3))) (w.heap.size+1) (kz 80 (l++[rl 1 t3]))):=by
    have:=HX.out.set k (by rw[lO (by rw[HL.out.1];omega)];exact hlt) (vw (rl 1 t3));have e:=vL (n:=80) (l:=l) (by rw[HL.out.1];exact hlt) (rl 1 t3);rw[HL.out.1] at e;rw[e] at this;exact this
   have HH2:Hid (ax (wr.setCell ⟨w.heap.size+1,k,none⟩ (vw (rl 1 t3))) hb (kv::vw a::vw b::vw c::vw d::vw e0::rest)):=HH.out.far (by have:=HBL.out;omega) _;have HB5:Hid (Below w.heap.size w (wr.setCell ⟨w.heap.size+1,k,none⟩ (vw (rl 1 t3)))):=ai HBel.out (by omega) _;have HN:Hid ((l++[rl 1 t3]).length=k+1/\∃ n,k+1=16+n/\l++[rl 1 t3]=rI ws n):=by
    obtain⟨h1,n,h2,h3⟩:=HL.out;refine⟨by rw[List.length_append,h1];rfl,n+1,by omega,?_⟩;rw[rI,<-h3,HT.out,h2]
   unfold vw at c3 c8 c14 c16 ck HX2 HH2 HB5;have F3:=ae (jh (v:=.int .u32 (nv (rl 1 t3))) c3 ne3);have F8:=ae (jh (v:=.int .u32 (nv (rl 1 t3))) c8 ne8);have F14:=ae (jh (v:=.int .u32 (nv (rl 1 t3))) c14 ne14);have F16:=ae (jh (v:=.int .u32 (nv (rl 1 t3))) c16 ne16);go_wp2
   go_region_held3 (fun w'=>w'.cell? ⟨w.heap.size+1,m3,none⟩=some (.int .u32 (nv z3))/\w'.cell? ⟨w.heap.size+1,m8,none⟩=some (.int .u32 (nv z8))/\w'.cell? ⟨w.heap.size+1,m14,none⟩=some (.int .u32 (nv z14))/\w'.cell? ⟨w.heap.size+1,m16,none⟩=some (.int .u32 (nv z16)))
    (first | exact⟨c3,c8,c14,c16⟩ | exact⟨F3.out,F8.out,F14.out,F16.out⟩ | go_keep)
    ((go_at_call 189;refine(dS t3 1 (by decide) (by decide) _).mono ?_;rintro e w' ⟨rfl,rfl⟩))
   all_goals go_wp2_with fail
   all_goals go_roundw
   case rel=>exact⟨k+1,_,by omega,by omega,by go_num,HN,ae HX2.out.drew,ae HH2.out.drew,ae (am HB5.out 1)⟩
   case measure=>simp[intOf];omega
  ·have HK8:Hid (k=80):=by show _=_;omega
   obtain⟨W3,hW3⟩:∃ W3,wr=W3:=⟨_,rfl⟩
   have HLS:Hid (l=rI ws 64):=by
    obtain⟨_,n,h2,h3⟩:=HL.out;have:n=64:=by have:=HK8.out;omega
    show _=_;rw[h3,this]
   have LL:Hid (l.length=80):=HL.out.1.trans HK8.out;have b1:=HH.out.cell 1 _ rfl;have b2:=HH.out.cell 2 _ rfl;have b3:=HH.out.cell 3 _ rfl;have b4:=HH.out.cell 4 _ rfl;have b5:=HH.out.cell 5 _ rfl;unfold vw at b1 b2 b3 b4 b5;rw[hW3] at b1 b2 b3 b4 b5 HX HH HBel |-;clear hW3 HL X2 HB2 L2 HWL X1 HB;go_wp2;go_quiet (fail);go_wp2_with fail;clear b1 b2 b3 b4 b5;go_loopw [69,6,7,8,9,10] (fun i sa sb sc sd se wr=>∃ (k:Nat) (ya yb yc yd ye:cD),k<=80/\i=.int .i64 k/\sa=.int .u32 (nv ya)/\sb=.int .u32 (nv yb)/\sc=.int .u32 (nv yc)/\sd=.int .u32 (nv yd)/\se=.int .u32 (nv ye)/\Hid (lZ l ⟨a,b,c,d,e0⟩ k=⟨ya,yb,yc,yd,ye⟩)/\Hid (∃ n,wr=W3.drewN n)) (fun i _ _ _ _ _ _=>80-(intOf i).toNat)
   case atStart=>exact⟨0,a,b,c,d,e0,by omega,rfl,rfl,rfl,rfl,rfl,rfl,rfl,_,rfl⟩
   case round=>
    obtain⟨k,ya,yb,yc,yd,ye,hk,rfl,rfl,rfl,rfl,rfl,rfl,HS,HW⟩:=hrel;by_cases hlt:k<80
    ·obtain⟨xk,hxk⟩:∃ t,l.getD k 0=t:=⟨_,rfl⟩
     have xg:wr.cell? ⟨w.heap.size+1,k,none⟩=some (vw xk):=by obtain⟨n,hn⟩:=HW.out;rw[hn,<-hxk];exact HX.out.cell k _ (vJ 80 (by rw[LL.out];exact hlt))
     unfold vw at xg;obtain⟨q,hq⟩:∃ q,k / 20=q:=⟨_,rfl⟩
     have e2:(k:Int) / 20=(q:Int):=by omega
     have hki:(k:Int)<80:=by omega
     have HQ:=ae hq;have HXK:=ae hxk;have hq4:q<4:=by omega
     clear hq hxk;rcases(show q=0\/q=1\/q=2\/q=3 by omega) with rfl | rfl | rfl | rfl
     ·obtain⟨t1,h1,H1⟩:=oe yb yc;obtain⟨t2,h2,H2⟩:=Qe yb;obtain⟨t3,h3,H3⟩:=oe t2 yd;obtain⟨f,h4,H4⟩:=Qv t1 t3;have HF:Hid (f=xH 0 yb yc yd):=by show _=_;rw[H4.out,H3.out,H2.out,H1.out];rfl
      obtain⟨s1,g1,_,S1⟩:=iF (rl 5 ya) f;obtain⟨s2,g2,_,S2⟩:=iF s1 ye;obtain⟨s3,g3,_,S3⟩:=iF s2 (oh 0);have g3':IntKind.u32.wrap (nv s2+1518500249)=nv s3:=g3;obtain⟨s4,g4,_,S4⟩:=iF s3 xk;have HS4:Hid (s4=rl 5 ya+f+ye+oh 0+xk):=by show _=_;rw[S4.out,S3.out,S2.out,S1.out]
      clear g3;go_upto_region 20 with(fail)
      go_quiet ((go_at_call 189;exact Calls.quiet_of_same (dS ya 5 (by decide) (by decide) _)));go_wp2_with fail;refine(dS yb 30 (by decide) (by decide) _).mono ?_;rintro e w' ⟨rfl,rfl⟩;go_wp2;go_roundw
      case rel=>exact⟨k+1,s4,ya,rl 30 yb,yc,yd,by omega,by go_num,rfl,rfl,rfl,rfl,rfl,nQ HS.out HQ.out HXK.out HF.out HS4.out,gO HW.out _⟩
      case measure=>simp[intOf];omega
     ·obtain⟨t1,h1,H1⟩:=it yb yc;obtain⟨f,h2,H2⟩:=it t1 yd;have HF:Hid (f=xH 1 yb yc yd):=by show _=_;rw[H2.out,H1.out];rfl
      obtain⟨s1,g1,_,S1⟩:=iF (rl 5 ya) f;obtain⟨s2,g2,_,S2⟩:=iF s1 ye;obtain⟨s3,g3,_,S3⟩:=iF s2 (oh 1);have g3':IntKind.u32.wrap (nv s2+1859775393)=nv s3:=g3;obtain⟨s4,g4,_,S4⟩:=iF s3 xk;have HS4:Hid (s4=rl 5 ya+f+ye+oh 1+xk):=by show _=_;rw[S4.out,S3.out,S2.out,S1.out]
      clear g3;go_upto_region 20 with(fail)
      go_quiet ((go_at_call 189;exact Calls.quiet_of_same (dS ya 5 (by decide) (by decide) _)));go_wp2_with fail;refine(dS yb 30 (by decide) (by decide) _).mono ?_;rintro e w' ⟨rfl,rfl⟩;go_wp2;go_roundw
      case rel=>exact⟨k+1,s4,ya,rl 30 yb,yc,yd,by omega,by go_num,rfl,rfl,rfl,rfl,rfl,nQ HS.out HQ.out HXK.out HF.out HS4.out,gO HW.out _⟩
      case measure=>simp[intOf];omega
     ·obtain⟨t1,h1,H1⟩:=oe yb yc;obtain⟨t2,h2,H2⟩:=oe yb yd;obtain⟨t3,h3,H3⟩:=Qv t1 t2;obtain⟨t4,h4,H4⟩:=oe yc yd;obtain⟨f,h5,H5⟩:=Qv t3 t4;have HF:Hid (f=xH 2 yb yc yd):=by show _=_;rw[H5.out,H4.out,H3.out,H2.out,H1.out];rfl
      obtain⟨s1,g1,_,S1⟩:=iF (rl 5 ya) f;obtain⟨s2,g2,_,S2⟩:=iF s1 ye;obtain⟨s3,g3,_,S3⟩:=iF s2 (oh 2);have g3':IntKind.u32.wrap (nv s2+2400959708)=nv s3:=g3;obtain⟨s4,g4,_,S4⟩:=iF s3 xk;have HS4:Hid (s4=rl 5 ya+f+ye+oh 2+xk):=by show _=_;rw[S4.out,S3.out,S2.out,S1.out]
      clear g3;go_upto_region 20 with(fail)
      go_quiet ((go_at_call 189;exact Calls.quiet_of_same (dS ya 5 (by decide) (by decide) _)));go_wp2_with fail;refine(dS yb 30 (by decide) (by decide) _).mono ?_;rintro e w' ⟨rfl,rfl⟩;go_wp2;go_roundw
      case rel=>exact⟨k+1,s4,ya,rl 30 yb,yc,yd,by omega,by go_num,rfl,rfl,rfl,rfl,rfl,nQ HS.out HQ.out HXK.out HF.out HS4.out,gO HW.out _⟩
      case measure=>simp[intOf];omega
     ·obtain⟨t1,h1,H1⟩:=it yb yc;obtain⟨f,h2,H2⟩:=it t1 yd;have HF:Hid (f=xH 3 yb yc yd):=by show _=_;rw[H2.out,H1.out];rfl
      obtain⟨s1,g1,_,S1⟩:=iF (rl 5 ya) f;obtain⟨s2,g2,_,S2⟩:=iF s1 ye;obtain⟨s3,g3,_,S3⟩:=iF s2 (oh 3);have g3':IntKind.u32.wrap (nv s2+3395469782)=nv s3:=g3;obtain⟨s4,g4,_,S4⟩:=iF s3 xk;have HS4:Hid (s4=rl 5 ya+f+ye+oh 3+xk):=by show _=_;rw[S4.out,S3.out,S2.out,S1.out]
      clear g3;go_upto_region 20 with(fail)
      go_quiet ((go_at_call 189;exact Calls.quiet_of_same (dS ya 5 (by decide) (by decide) _)));go_wp2_with fail;refine(dS yb 30 (by decide) (by decide) _).mono ?_;rintro e w' ⟨rfl,rfl⟩;go_wp2;go_roundw
      case rel=>exact⟨k+1,s4,ya,rl 30 yb,yc,yd,by omega,by go_num,rfl,rfl,rfl,rfl,rfl,nQ HS.out HQ.out HXK.out HF.out HS4.out,gO HW.out _⟩
      case measure=>simp[intOf];omega
    ·obtain rfl:k=80:=by omega
     have HH3:Hid (ax wr hb (kv::vw a::vw b::vw c::vw d::vw e0::rest)):=by obtain⟨n,hn⟩:=HW.out;rw[hn];exact HH.out.drewN n
     have hcp:∀ ty,(Builtin.copy_ #[143,143] ty #[.slice (some ⟨hb,1,none⟩) 8 8,.slice (some ⟨wr.heap.size,0,none⟩) 5 5]).run Tryz.prog (wr.alloc (.cells #[.int .u32 (nv ya),.int .u32 (nv yb),.int .u32 (nv yc),.int .u32 (nv yd),.int .u32 (nv ye)] 137))=.ok (.int .i64 (5:Nat)) ((wr.alloc (.cells #[.int .u32 (nv ya),.int .u32 (nv yb),.int .u32 (nv yc),.int .u32 (nv yd),.int .u32 (nv ye)] 137)).setCells hb 1 [vw ya,vw yb,vw yc,vw yd,vw ye]):=fun ty=>
      jM (pre:=[kv]) (old:=[vw a,vw b,vw c,vw d,vw e0]) (post:=rest) (HH3.out.alloc _) ty Tryz.underlying143 (by kernel_rfl) rfl [vw ya,vw yb,vw yc,vw yd,vw ye] rfl rfl rfl (fun j v hj=>by
       rw[vI];exact(ax.new wr [vw ya,vw yb,vw yc,vw yd,vw ye] 137).cell j v hj) (by intro v hv;simp[vw] at hv;rcases hv with rfl | rfl | rfl | rfl | rfl<;>rfl)
     go_wp2_with (refine nk _ rfl _ _ 143 143 rfl _ _ rfl rfl hcp ?_);go_end0;refine⟨rfl,?_,?_⟩
     ·rw[<-HWS.out,<-HLS.out,HS.out];exact ax.setN rest [vw ya,vw yb,vw yc,vw yd,vw ye] [vw a,vw b,vw c,vw d,vw e0] [kv] _ rfl (HH3.out.alloc _)
     ·exact eY _ _ _ _ (eK (by obtain⟨n,hn⟩:=HW.out;rw[hn];exact bZ (bB (World.grownBy.refl w _) HBel.out) n) _)
theorem yI (hT:Tryz.prog.underlying T=some (.slice (Tryz.prog.elem T)))(hE:Tryz.prog.elem T=E)(hs:∀ w,(sizeOf E).run Tryz.prog w=.ok sz w)
  (hij:i<=j)(hj:j<=c)(w:World):(Instr.slice T (.slice A n c) (some (.int .i64 i)) (some (.int .i64 j)) none).run Tryz.prog w=.ok (.slice (if c=i then A else A.map (·.add (i*sz))) (j-i) (c-i)) w:=by
 have hb:(Instr.sliceBounds true n c (some (.int .i64 i)) (some (.int .i64 j)) none).run Tryz.prog w=.ok (i,j,c) w:=by
  simp[Instr.sliceBounds,run_sliceBound (k:=.i64) (i:=(j:Int)) (y:=c) (h0:=by omega) (h1:=by omega),run_sliceBound (k:=.i64) (i:=(i:Int)) (y:=j) (h0:=by omega) (h1:=by omega)]
 simp only[Instr.slice,Sem.run_bind,run_underlying hT,Result.andThen_ok,hb,hE,hs,Sem.run_pure]
theorem Ph (hT:Tryz.prog.underlying T=some (.slice (Tryz.prog.elem T)))(hE:Tryz.prog.elem T=E)(hs:∀ w,(sizeOf E).run Tryz.prog w=.ok sz w)
  (hk:k<=n)(w:World):(Instr.slice T (.slice A n c) (some (.int .i64 k)) none none).run Tryz.prog w=.ok (.slice (if c=k then A else A.map (·.add (k*sz))) (n-k) (c-k)) w:=by
 have hb:(Instr.sliceBounds true n c (some (.int .i64 k)) none none).run Tryz.prog w=.ok (k,n,c) w:=by
  simp[Instr.sliceBounds,run_sliceBound (k:=.i64) (i:=(k:Int)) (y:=n) (h0:=by omega) (h1:=by omega)]
 simp only[Instr.slice,Sem.run_bind,run_underlying hT,Result.andThen_ok,hb,hE,hs,Sem.run_pure]
theorem Rd.cut (h:Rd w 1 A n xs)(hij:i<=j)(hj:j<=n)(hc:n<=c):Rd w 1 (if c=i then A else A.map (·.add (i*1))) (j-i) ((xs.drop i).take (j-i)):=by
 have hl:=h.1;refine⟨by simp;omega,fun hp=>?_⟩;obtain⟨b,off,rfl,hc2⟩:=h.2 (by omega);rw[if_neg (by omega)];refine⟨b,off+i,by simp[kN],fun k u hu=>?_⟩;have hk:k<j-i:=by
  have:=(gS hu).1;simp at this;omega
 rw[List.getElem?_take_of_lt hk,List.getElem?_drop] at hu;rw[Nat.add_assoc];exact hc2 _ u hu
theorem MU {x:Nat}(k:Nat)(hc:c<2 ^ k):x*2 ^ k ||| c=x*2 ^ k+c:=by
 rw[Nat.mul_comm];exact(Nat.two_pow_add_eq_or_of_lt hc x).symm
end
theorem rq:∀ (l pre:List ag),(fX pre l).2=0↔∀ k x,l[k]?=some x->mD (pre++l.take k) x=0
 | [],pre=>by simp[fX]
 | x::r,pre=>by
  unfold fX;by_cases h:mD pre x=0
  ·rw[if_pos h,rq r (pre++[x])];constructor
   ·intro H k y hy;cases k with
    | zero=>simp at hy;subst hy;simpa using h
    | succ k=>have:=H k y (by simpa using hy);simpa using this
   ·intro H k y hy;have:=H (k+1) y (by simpa using hy);simpa using this
  ·rw[if_neg h];constructor
   ·intro e;exact absurd e h
   ·intro H;exact absurd (by simpa using H 0 x rfl) h
structure dn (l:List ag):Prop where
 err:∀ x∈l,dE x=0
 nd:∀ (i j:Nat)(x y:ag),l[i]?=some x->l[j]?=some y->x.path=y.path->i=j
 up:∀ x∈l,∀ y∈l,y.path∈aV x.path->y.kind=2
 hard:∀ (k:Nat)(x:ag),l[k]?=some x->x.kind=4->∃ (i:Nat)(y:ag),i<k/\l[i]?=some y/\y.path=x.link/\y.kind=1/\gh x y=true
theorem nS {l:List ag}{y:ag}(h:cT l s=some y):y∈l/\y.path=s:=⟨List.mem_of_find?_eq_some h,by have:=List.find?_some h;simpa using this⟩
theorem Df {l:List ag}(h:cT l s=none):∀ y∈l,y.path≠s:=by
 unfold cT at h;rw[List.find?_eq_none] at h;intro y hy e;exact h y hy (by simpa using e)
theorem yM {l:List ag}{y:ag}(hy:y∈l)(hu:∀ z∈l,z.path=y.path->z=y):cT l y.path=some y:=by
 cases h:cT l y.path with
 | none=>exact absurd rfl (Df h y hy)
 | some z=>obtain⟨h1,h2⟩:=nS h;rw[hu z h1 h2]
theorem jj {α:Type}{l:List α}{x:α}(h:x∈l.take k):∃ i,i<k/\l[i]?=some x:=by
 obtain⟨i,hi⟩:=List.getElem?_of_mem h;rw[List.getElem?_take] at hi;split at hi
 ·exact⟨i,by assumption,hi⟩
 ·cases hi
theorem lP {α:Type}{l:List α}{x:α}(h:l[i]?=some x)(hk:i<k):x∈l.take k:=by
 refine gM (i:=i) ?_;rw[List.getElem?_take,if_pos hk];exact h
theorem jN {pre:List ag}{x:ag}(h:mD pre x=0):dE x=0/\cT pre x.path=none/\(x.kind=4->fW pre x=0)/\(∀ s∈aV x.path,∀ y,cT pre s=some y->y.kind=2)/\(x.kind≠2->∀ y∈pre,x.path ∉ aV y.path):=by
 unfold mD at h;split at h
 ·contradiction
 split at h
 ·simp at h
 split at h
 ·rename_i h3;exact absurd h h3.2
 split at h
 ·simp at h
 split at h
 ·simp at h
 ·rename_i h1 h2 h3 h4 h5;refine⟨by simpa using h1,by simpa using h2,fun hk=>?_,fun s hs y hy=>?_,fun hk y hy hm=>?_⟩
  ·by_cases e:fW pre x=0
   ·exact e
   ·exact absurd ⟨hk,e⟩ h3
  ·by_cases e:y.kind=2
   ·exact e
   ·exact absurd (List.any_eq_true.2 ⟨s,hs,by rw[hy];simpa using e⟩) h4
  ·exact h5 ⟨hk,List.any_eq_true.2 ⟨y,hy,jU.2 hm⟩⟩
theorem Ng {pre:List ag}{x:ag}(h1:dE x=0)(h2:cT pre x.path=none)(h3:x.kind=4->fW pre x=0)(h4:∀ s∈aV x.path,∀ y,cT pre s=some y->y.kind=2)(h5:x.kind≠2->∀ y∈pre,x.path ∉ aV y.path):mD pre x=0:=by
 unfold mD;rw[if_neg (by simpa using h1),if_neg (by rw[h2];simp),if_neg (fun h=>h.2 (h3 h.1)),if_neg,if_neg]
 ·rintro⟨hk,ha⟩;obtain⟨y,hy,hc⟩:=List.any_eq_true.1 ha;exact h5 hk y hy (jU.1 hc)
 ·intro ha;obtain⟨s,hs,hc⟩:=List.any_eq_true.1 ha;cases hf:cT pre s with
  | none=>rw[hf] at hc;simp at hc
  | some y=>rw[hf] at hc;have:=h4 s hs y hf;simp[this] at hc
theorem Gg {pre:List ag}{x:ag}(h:fW pre x=0):∃ y,cT pre x.link=some y/\y.kind=1/\gh x y=true:=by
 unfold fW at h;cases hf:cT pre x.link with
 | none=>rw[hf] at h;simp at h
 | some y=>
  rw[hf] at h;simp only at h;split at h
  ·simp at h
  split at h
  ·simp at h
  ·rename_i h1 h2;exact⟨y,rfl,by simpa using h1,by simpa using h2⟩
theorem Dg {pre:List ag}{x y:ag}(h1:cT pre x.link=some y)(h2:y.kind=1)(h3:gh x y=true):fW pre x=0:=by
 unfold fW;rw[h1];simp[h2,h3]
theorem Au {l:List ag}(h:(fX [] l).2=0):dn l:=by
 have H:=(rq l []).1 h;simp only[List.nil_append] at H;have nd:∀ (i j:Nat)(x y:ag),l[i]?=some x->l[j]?=some y->i<j->x.path≠y.path:=fun i j x y hi hj hij=>
  Df (jN (H j y hj)).2.1 x (lP hi hij)
 have nd':∀ (i j:Nat)(x y:ag),l[i]?=some x->l[j]?=some y->x.path=y.path->i=j:=fun i j x y hi hj e=>by
  rcases Nat.lt_trichotomy i j with h | h | h
  ·exact absurd e (nd i j x y hi hj h)
  ·exact h
  ·exact absurd e.symm (nd j i y x hj hi h)
 refine⟨fun x hx=>?_,nd',fun x hx y hy hm=>?_,fun k x hk h4=>?_⟩
 ·obtain⟨k,hk⟩:=List.getElem?_of_mem hx;exact(jN (H k x hk)).1
 ·obtain⟨i,hi⟩:=List.getElem?_of_mem hx;obtain⟨j,hj⟩:=List.getElem?_of_mem hy;rcases Nat.lt_trichotomy i j with h | h | h
  ·by_cases e:y.kind=2
   ·exact e
   ·exact absurd hm ((jN (H j y hj)).2.2.2.2 e x (lP hi h))
  ·subst h;rw[hi] at hj;injection hj with hj;subst hj;exact absurd hm (par_self x.path)
  ·refine(jN (H i x hi)).2.2.2.1 _ hm y ?_;refine yM (lP hj h) fun z hz e=>?_;obtain⟨m,hm1,hm2⟩:=jj hz;have:=nd' m j z y hm2 hj e;subst this;rw[hm2] at hj;injection hj
 ·obtain⟨y,hf,h1,h2⟩:=Gg ((jN (H k x hk)).2.2.1 h4);obtain⟨hm,hp⟩:=nS hf;obtain⟨i,hi,hiy⟩:=jj hm;exact⟨i,y,hi,hiy,hp,h1,h2⟩
 where
 par_self (s:BA):s ∉ aV s:=by
  intro h;have key:∀ k,k<=s.size->∀ x∈gR s k,x.size<k:=by
   intro k
   induction k with
   | zero=>intro _ x hx;simp[gR] at hx
   | succ k ih=>
    intro hk x hx;unfold gR at hx;split at hx
    ·rcases List.mem_append.1 hx with hx | hx
     ·have:=ih (by omega) x hx;omega
     ·rw[List.mem_singleton.1 hx,ByteArray.size_extract];omega
    ·have:=ih (by omega) x hx;omega
  have:=key s.size lr s h;omega
theorem Pk {l:List ag}(h:dn l):(fX [] l).2=0:=by
 rw[rq];intro k x hk;rw[List.nil_append];have uq:∀ i y,i<k->l[i]?=some y->cT (l.take k) y.path=some y:=fun i y hi hy=>
  yM (lP hy hi) fun z hz e=>by
   obtain⟨m,_,hm2⟩:=jj hz;have:=h.nd m i z y hm2 hy e;subst this;rw[hm2] at hy;injection hy
 refine Ng (h.err x (gM hk)) ?_ (fun h4=>?_) (fun s hs y hy=>?_) (fun hk2 y hy hm=>?_)
 ·cases hf:cT (l.take k) x.path with
  | none=>rfl
  | some y=>
   obtain⟨hm,hp⟩:=nS hf;obtain⟨i,hi,hiy⟩:=jj hm;have:=h.nd i k y x hiy hk hp;omega
 ·obtain⟨i,y,hi,hy,hp,h1,h2⟩:=h.hard k x hk h4;exact Dg (by rw[<-hp];exact uq i y hi hy) h1 h2
 ·obtain⟨hm,hp⟩:=nS hy;rw[<-hp] at hs;exact h.up x (gM hk) y (List.mem_of_mem_take hm) hs
 ·exact hk2 (h.up y (List.mem_of_mem_take hy) x (gM hk) hm)
section
open Go.RowKit
theorem iR {base:Nat}{size:Nat}(h:w.ownsRow base e size (.slice A n c) n xs)(hn:0<n):
  ∃ g,A=some ⟨g,0,none⟩/\base<=g/\g<w.heap.size/\(∀ j,j<n*size->∃ v,w.cell? ⟨g,j,none⟩=some v)/\∀ j,w.frozen? ⟨g,j,none⟩=false:=by
 obtain⟨g,cap,hv,hb,hlt⟩:=h.form hn;obtain⟨rfl,rfl⟩:A=some ⟨g,0,none⟩/\c=cap:=by injection hv with h1 _ h2;exact⟨h1,h2⟩
 refine⟨g,rfl,hb,hlt,fun j hj=>?_,fun j=>h.frozenAt j⟩;have hl:j<xs.length:=by rw[h.1];exact hj
 exact⟨xs[j],by rw[h.cellAt j hj,gG hl]⟩
theorem gj.base {q:bK}{lo lo':Nat}(h:gj q w lo)(hb:lo'<=lo):gj q w lo':=⟨aY h.1 hb,aY h.2 hb,aY h.3 hb,aY h.4 hb,aY h.5 hb⟩
end
section
open Go.RowKit Go.Maps
def Rs (l:LU):BA:=strOfNums (l.map fun c=>(c.toNat:Int))
theorem Kn (w:World)(A:OA)(c:Nat):(convert 33 9 (.slice A 0 c)).run Tryz.prog w=.ok (.string (strOfNums [])) w:=by
 cases A with
 | none=>exact run_convert_bytes_nil (P:=Tryz.prog) w _ 5 Tryz.underlying33 Tryz.underlying5 0 c _ Tryz.underlying9
 | some a=>
  rw[run_convert_bytes_string w _ _ 5 _ _ _ Tryz.underlying33 Tryz.underlying5 Tryz.underlying9,run_bytesToString w a 0 c [] rfl];rfl
theorem ry {l:LU}(h:Rd w 1 A l.length (l.map vb)):(convert 33 9 (.slice A l.length c)).run Tryz.prog w=.ok (.string (Rs l)) w:=by
 cases l with
 | nil=>exact Kn w A c
 | cons x r=>
  obtain⟨b,o,rfl,hc⟩:=h.2 (by simp);refine run_convert_bytes_arg (P:=Tryz.prog) w _ 5 Tryz.underlying33 Tryz.underlying5 b o _ c _ (by simp) (fun i hi=>?_) _ Tryz.underlying9;have hi':i<((x::r).map fun c=>(c.toNat:Int)).length:=by simpa using hi
  rw[hc i (vb ((x::r)[i]'hi)) (by rw[List.getElem?_map,gG hi];rfl)];unfold vb;rw[List.getD,gG hi',List.getElem_map];rfl
structure vS (W:World) (b o:Nat) (x:ag):Prop where
 cell:∀ (j:Nat)(u:Value),x.cells[j]?=some u->W.cell? ⟨b,o+j,none⟩=some u
 data:Rd W 1 x.da x.data.length (x.data.map vb)
theorem vS.below {W':World}{o:Nat}{x:ag}(h:vS W b o x)(hb:Below W.heap.size W W'):vS W' b o x:=
 ⟨fun j u hu=>(hb.cell (p:=⟨b,o+j,none⟩) (World.block_lt_of_cell? _ _ (h.cell j u hu))).trans (h.cell j u hu),h.data.below hb⟩
theorem vS.lim {o:Nat}{x:ag}(h:vS W b o x):W.cell? ⟨b,o,none⟩=some (.string x.path)/\W.cell? ⟨b,o+1,none⟩=some (.int .i64 x.kind)/\W.cell? ⟨b,o+2,none⟩=some (.int .i64 x.mode)/\W.cell? ⟨b,o+3,none⟩=some (.int .i64 x.uid)/\W.cell? ⟨b,o+4,none⟩=some (.int .i64 x.gid)/\W.cell? ⟨b,o+5,none⟩=some (.string x.owner)/\W.cell? ⟨b,o+6,none⟩=some (.string x.group)/\W.cell? ⟨b,o+7,none⟩=some (.int .i64 x.mtime)/\W.cell? ⟨b,o+8,none⟩=some (.string x.link)/\W.cell? ⟨b,o+9,none⟩=some (.slice x.da x.data.length x.dc)/\(convert 33 9 (.slice x.da x.data.length x.dc)).run Tryz.prog W=.ok (.string (Rs x.data)) W:=
 ⟨h.cell 0 _ rfl,h.cell 1 _ rfl,h.cell 2 _ rfl,h.cell 3 _ rfl,h.cell 4 _ rfl,h.cell 5 _ rfl,h.cell 6 _ rfl,h.cell 7 _ rfl,h.cell 8 _ rfl,h.cell 9 _ rfl,ry h.data⟩
end
section
open Go.RowKit Go.Shelf Go.Lib Go.Sort
section
variable {α : Type} [Inhabited α]
theorem vT {enc:α->LV}(hk:∀ x,(enc x).length=k)(d:Array α):(flatK enc k d).toList=d.toList.flatMap enc:=by
 have hlen:(d.toList.flatMap enc).length=d.size*k:=by rw[dw hk];simp
 apply List.ext_getElem?;intro t;by_cases ht:t<d.size*k
 ·have k0:0<k:=by rcases Nat.eq_zero_or_pos k with h | h
                  ·subst h;simp at ht
                  ·exact h
  have hq:t / k<d.size:=(Nat.div_lt_iff_lt_mul k0).2 ht;have hm:t % k<k:=Nat.mod_lt _ k0;have hx:d.toList[t / k]?=some (d[t / k]'hq):=by simp[hq]
  have h1:=ft hk d.toList (t / k) (t % k) (d[t / k]'hq) hx hm;have e:t / k*k+t % k=t:=Nat.div_add_mod' t k;rw[e] at h1;rw[h1];have h2:=get_flatK enc k d t ht;have h3:(flatK enc k d)[t]?=some ((flatK enc k d)[t]!):=by
   rw[getElem!_pos _ t (by rw[size_flatK];exact ht)];exact Array.getElem?_eq_getElem _
  rw[Array.getElem?_toList,h3,h2,getElem!_pos d (t / k) hq];rw[getElem!_pos _ (t % k) (by rw[hk];exact hm)];exact(gG _).symm
 ·rw[List.getElem?_eq_none (by rw[Array.length_toList,size_flatK];omega),List.getElem?_eq_none (by omega)]
theorem vU {enc:α->LV}(hk:∀ x,(enc x).length=k){base:Nat}{l:List α}(h:w.ownsRow base e k (.slice (some ⟨g,0,none⟩) l.length cap) l.length (l.flatMap enc)):HoldsK enc k w g 0 l.toArray:=by
 intro j hj;have hj':j<l.length*k:=by rw[size_flatK] at hj;simpa using hj
 rw[Nat.zero_add];refine⟨?_,h.frozenAt j⟩;rw[h.cellAt j hj'];have e1:=vT hk l.toArray;have e2:(flatK enc k l.toArray)[j]?=some ((flatK enc k l.toArray)[j]!):=by
  rw[getElem!_pos _ j hj];exact Array.getElem?_eq_getElem _
 rw[<-Array.getElem?_toList,e1] at e2;exact e2
theorem Dk {enc:α->LV}(hk:∀ x,(enc x).length=k){base:Nat}{l:List α}(h:w.ownsRow base e k (.slice (some ⟨g,0,none⟩) l.length cap) l.length (l.flatMap enc))(d:Array α)(hd:d.size=l.length)(n:Nat)(os:Array Obj):
  (sortWorldK enc k w g 0 n d os).ownsRow base e k (.slice (some ⟨g,0,none⟩) l.length cap) l.length (d.toList.flatMap enc)/\w.grownBy (sortWorldK enc k w g 0 n d os) (some g):=by
 refine⟨?_,rfl,rfl,rfl,size_sortWorldK_c enc k w g 0 n d os,fun i hi hne=>?_⟩
 ·obtain⟨_,⟨hv,hn⟩ | ⟨g',cap',cur,hv,hb,hh,hc1,hc2,hsz,htk⟩⟩:=h
  ·cases hv
  injection hv with e1 e2 e3;injection e1 with e1;injection e1 with e1;subst e1 e3;have hg:g<w.heap.size:=(Array.getElem?_eq_some_iff.1 hh).1;refine⟨by rw[dw hk];simp[hd],.inr ⟨g,cap,putCells id 0 (flatK enc k d) cur,rfl,hb,?_,hc1,hc2,by simp[putCells,hsz],?_⟩⟩
  ·show(w.heap.modify g _++os)[g]?=_;rw[Array.getElem?_append_left (by simpa using hg),Array.getElem?_modify,if_pos rfl,hh];rfl
  ·rw[<-vT hk];have hle:l.length*k<=cur.size:=by rw[hsz];exact Nat.mul_le_mul_right k hc1
   apply List.ext_getElem?;intro t;rw[List.getElem?_take];by_cases ht:t<l.length*k
   ·have hf:t<(flatK enc k d).size:=by rw[size_flatK,hd];exact ht
    rw[if_pos ht,Array.getElem?_toList,Array.getElem?_toList,Array.getElem?_eq_getElem (by simp[putCells];omega),Array.getElem?_eq_getElem hf];simp only[putCells,Array.getElem_mapIdx];rw[if_pos ⟨z0,by omega⟩];simp only[Nat.sub_zero,id];rw[getElem!_pos _ t hf]
   ·rw[if_neg ht,List.getElem?_eq_none (by rw[Array.length_toList,size_flatK,hd];omega)]
 ·have hne':g≠i:=fun e=>hne (by rw[e]);show(w.heap.modify g _++os)[i]?=_;rw[Array.getElem?_append_left (by simpa using hi),Array.getElem?_modify,if_neg hne']
end
section
variable {α : Type}
def Ld (key:α->BA)(x y:α):Int:=if bl (key x)<bl (key y) then -1 else if bl (key y)<bl (key x) then 1 else 0
theorem Av (key:α->BA)(x y:α):ltOf (Ld key) x y=decide (bl (key x)<bl (key y)):=by
 unfold ltOf Ld;by_cases h:bl (key x)<bl (key y)
 ·rw[if_pos h,dT h];rfl
 ·rw[if_neg h,dF h];split<;>rfl
theorem Hv (key:α->BA):SWO (ltOf (Ld key)):=by
 refine⟨fun x=>?_,fun x y z h1 h2=>?_,fun x y z h1 h2=>?_⟩
 ·rw[Av];exact dF (uM _)
 ·rw[Av] at *;exact dT (Hc (dO h1) (dO h2))
 ·rw[Av] at *;have h1:=of_decide_eq_false h1;have h2:=of_decide_eq_false h2;apply dF;intro h3;by_cases e:bl (key x)=bl (key y)
  ·rw[e] at h3;exact h2 h3
  ·exact h2 (Hc (qW h1 (fun e'=>e e')) h3)
end
section
variable {α : Type} [Inhabited α]
theorem sg {key:α->BA}{d:Array α}(hn:d.size=n)(h:SortedIn (ltOf (Ld key)) 0 n d):d.toList.Pairwise (fun x y=>¬ bl (key y)<bl (key x)):=by
 rw[List.pairwise_iff_getElem];intro i j hi hj hij;have hi':i<d.size:=by simpa using hi
 have hj':j<d.size:=by simpa using hj
 have:=h i j z0 hij (by omega);rw[Av,getElem!_pos d j hj',getElem!_pos d i hi'] at this;have:=of_decide_eq_false this;simpa using this
theorem yO {l:List α}{d:Array α}(hn:l.length=n)(h:PermIn 0 n l.toArray d):d.toList.Perm l:=by
 obtain⟨h1,_,h3⟩:=h;have hs:d.size=n:=by rw[h1];simpa using hn
 have e1:d.extract 0 n=d:=by rw[<-hs];simp
 have e2:l.toArray.extract 0 n=l.toArray:=by rw[<-hn];simp
 rw[e1,e2] at h3;simpa using h3
end
end
section
open Go.RowKit Go.Maps
theorem wg (x y:ag)(w:World):Calls Tryz.prog 39 #[.agg #[.string x.path,.int .i64 x.kind,.int .i64 x.mode,.int .i64 x.uid,.int .i64 x.gid,.string x.owner,.string x.group,.int .i64 x.mtime,.string x.link,.slice x.da x.data.length x.dc],.agg #[.string y.path,.int .i64 y.kind,.int .i64 y.mode,.int .i64 y.uid,.int .i64 y.gid,.string y.owner,.string y.group,.int .i64 y.mtime,.string y.link,.slice y.da y.data.length y.dc]] w fun e w'=>e=.returned (.bool (gh x y))/\Below w.heap.size w w':=by
 have hb:Below w.heap.size w ((w.alloc (.cells #[.string x.path,.int .i64 x.kind,.int .i64 x.mode,.int .i64 x.uid,.int .i64 x.gid,.string x.owner,.string x.group,.int .i64 x.mtime,.string x.link,.slice x.da x.data.length x.dc] 35)).alloc (.cells #[.string y.path,.int .i64 y.kind,.int .i64 y.mode,.int .i64 y.uid,.int .i64 y.gid,.string y.owner,.string y.group,.int .i64 y.mtime,.string y.link,.slice y.da y.data.length y.dc] 35)):=(bR.alloc lr _).alloc (by simp) _;have HB:=ae hb;clear hb;cases h0:(x.mode==y.mode)
 case false=>
  have E:Hid (gh x y=false):=by show _=_;unfold gh;rw[h0];rfl
  go_in;go_wp2;go_ret;exact⟨congrArg (fun b=>Ending.returned (Value.bool b)) E.out.symm,HB.out⟩
 cases h1:(x.uid==y.uid)
 case false=>
  have E:Hid (gh x y=false):=by show _=_;unfold gh;rw[h0,h1];rfl
  go_in;go_wp2;go_ret;exact⟨congrArg (fun b=>Ending.returned (Value.bool b)) E.out.symm,HB.out⟩
 cases h2:(x.gid==y.gid)
 case false=>
  have E:Hid (gh x y=false):=by show _=_;unfold gh;rw[h0,h1,h2];rfl
  go_in;go_wp2;go_ret;exact⟨congrArg (fun b=>Ending.returned (Value.bool b)) E.out.symm,HB.out⟩
 cases h3:(x.owner.toList==y.owner.toList)
 case false=>
  have E:Hid (gh x y=false):=by show _=_;unfold gh;rw[h0,h1,h2,h3];rfl
  go_in;go_wp2;go_ret;exact⟨congrArg (fun b=>Ending.returned (Value.bool b)) E.out.symm,HB.out⟩
 cases h4:(x.group.toList==y.group.toList)
 case false=>
  have E:Hid (gh x y=false):=by show _=_;unfold gh;rw[h0,h1,h2,h3,h4];rfl
  go_in;go_wp2;go_ret;exact⟨congrArg (fun b=>Ending.returned (Value.bool b)) E.out.symm,HB.out⟩
 cases h5:(x.mtime==y.mtime)
 case false=>
  have E:Hid (gh x y=false):=by show _=_;unfold gh;rw[h0,h1,h2,h3,h4,h5];rfl
  go_in;go_wp2;go_ret;exact⟨congrArg (fun b=>Ending.returned (Value.bool b)) E.out.symm,HB.out⟩
 have E:Hid (gh x y=true):=by show _=_;unfold gh;rw[h0,h1,h2,h3,h4,h5];rfl
 go_in;go_wp2;go_ret;exact⟨congrArg (fun b=>Ending.returned (Value.bool b)) E.out.symm,HB.out⟩
theorem wj {s x:BA}:∀ {n:Nat},n<=s.size->x∈gR s n->∃ k,k<n/\(bl s)[k]?=some 47/\x=s.extract 0 k
 | 0,_,h=>by simp[gR] at h
 | n+1,hn,h=>by
  unfold gR at h;split at h
  ·rename_i h47;rcases List.mem_append.1 h with h | h
   ·obtain⟨k,a,b,c⟩:=wj (by omega) h;exact⟨k,by omega,b,c⟩
   ·exact⟨n,by omega,h47,List.mem_singleton.1 h⟩
  ·obtain⟨k,a,b,c⟩:=wj (by omega) h;exact⟨k,by omega,b,c⟩
theorem KC (h:(bl s)[k]?=some 47):∀ n,k<n->s.extract 0 k∈gR s n:=by
 intro n
 induction n with
 | zero=>intro hk;omega
 | succ n ih=>
  intro hk;unfold gR;by_cases e:k=n
  ·subst e;rw[if_pos h];exact List.mem_append_right _ (List.mem_singleton.2 rfl)
  ·have:=ih (by omega);split
   ·exact List.mem_append_left _ this
   ·exact this
theorem Rz (c:UInt8):((c.toNat:Int)==47)=(c==47):=by
 have h:(List.range 256).all (fun n=>(((UInt8.ofNat n).toNat:Int)==47)==(UInt8.ofNat n==47))=true:=by kernel_rfl
 have:=List.all_eq_true.1 h c.toNat (List.mem_range.2 c.toNat_lt);simpa using this
theorem rC {a b:BA}:jm (aV b) a=true↔a.size<b.size/\b.extract 0 a.size=a/\(bl b)[a.size]?=some 47:=by
 rw[jU];unfold aV;constructor
 ·intro h;obtain⟨k,hk,h47,e⟩:=wj lr h;have hs:a.size=k:=by rw[e,ByteArray.size_extract];omega
  rw[hs];exact⟨hk,e.symm,h47⟩
 ·rintro⟨h1,h2,h3⟩;have:=KC h3 b.size h1
  rwa [h2] at this
theorem KE (a b:BA)(w:World)(ha:a.size<=9223372036854775807)(hb:b.size<=9223372036854775807):Calls Tryz.prog 117 #[.string a,.string b] w fun e w'=>e=.returned (.bool (jm (aV b) a))/\w=w':=by
 obtain⟨v,hv⟩:∃ v,jm (aV b) a=v:=⟨_,rfl⟩
 rw[hv];go_in;by_cases h:a.size<b.size
 case neg=>
  have E:Hid (v=false):=by
   show _=_;rw[<-hv];cases e:jm (aV b) a with
   | false=>rfl
   | true=>exact absurd (rC.1 e).1 h
  clear hv;have q2:¬ (a.size:Int)<(b.size:Int):=by omega
  go_wp2;go_ret;exact⟨by rw[E.out];rfl,rfl⟩
 have q2:(a.size:Int)<(b.size:Int):=by omega
 by_cases he:b.extract 0 a.size=a
 case neg=>
  have E:Hid (v=false):=by
   show _=_;rw[<-hv];cases e:jm (aV b) a with
   | false=>rfl
   | true=>exact absurd (rC.1 e).2.1 he
  clear hv;have q3:((b.extract 0 a.size).toList==a.toList)=false:=by rw[et];exact dF he
  clear he;go_wp2;go_ret;exact⟨by rw[E.out];rfl,rfl⟩
 have q3:((b.extract 0 a.size).toList==a.toList)=true:=by rw[he];simp
 have E:Hid (v=(b[a.size]==47)):=by
  show _=_;rw[<-hv,bI,rC,dQ b a.size h];simp[h,he]
 clear hv he;go_wp2;go_ret;exact⟨by rw[E.out];simp[Rz],rfl⟩
end
end Go.Proofs.YtlglfpbhapmhiaaGreatDoor
