/- A part of the proof of a law on dependencies in three formats. No condition. -/
import Derived.Test.YtkjdbpjglobbjaaGreatDoorE15
import Derived.Test.YtkjdbpjglobbjaaGreatDoorE37
import Derived.Test.YtkjdbpjglobbjaaGreatDoorE40
set_option maxRecDepth 100000
set_option maxHeartbeats 20000000
set_option linter.unusedVariables false
set_option linter.unusedSimpArgs false
namespace Go.Proofs.YtkjdbpjglobbjaaGreatDoor
section
open Go.RowKit
theorem oF {l r:LU}{n:Nat}(h:dL l=some (n,r)):r.length<l.length∧n≤999999999:=by
 unfold dL at h
 split at h
 ·rename_i hc
  rw[Bool.and_eq_true] at hc
  injection h with h;injection h with h1 h2
  have hle:=cJ aD l
  have hd:=hc.1
  have hv:=dO hc.2
  constructor
  ·rw[←h2,List.length_drop]
   have:au aD l≠0:=by
    intro e;rw[e,List.take_zero] at hd;revert hd;decide
   omega
  ·omega
 ·cases h
theorem pI {c x:UInt8}(h:x≠c):∀ l:LU,bU c (l++[x])=bU c l
 | []=>EP (by simp;exact fun e=>h e.symm)
 | a::r=>by
  have ih:=pI h r
  rw[List.cons_append]
  simp only[bU,ih]
theorem zN (c:UInt8)(l:LU):bU c (l++[c])=some l.length:=ou l [] (by simp)
def El (l:LU)(k ep:Nat)(r:LU):Prop:=match bU 58 (l.take k) with
 | none=>ep=0∧r=l
 | some j=>(∃ q,dL l=some (ep,q))∧r=l.drop (j+1)
theorem El.start (l:LU):El l 0 0 l:=⟨rfl,rfl⟩
theorem El.next {l r:LU}{k ep:Nat}{x:UInt8}(h:El l k ep r)(hx:l[k]?=some x)(hne:x≠58):El l (k+1) ep r:=by
 obtain⟨hk,hf⟩:=gS hx
 unfold El at *
 rw[tS hk,hf,pI hne]
 exact h
theorem El.hit {l q:LU}{k ep:Nat}(hx:l[k]?=some 58)(ht:dL l=some (ep,q)):El l (k+1) ep (l.drop (k+1)):=by
 obtain⟨hk,hf⟩:=gS hx
 unfold El
 rw[tS hk,hf,zN,List.length_take,Nat.min_eq_left (by omega)]
 exact⟨⟨q,ht⟩,rfl⟩
theorem El.done {l r:LU}{k ep:Nat}(h:El l k ep r)(hk:l.length≤k):Rh l=some (ep,r):=by
 unfold El at h
 rw[tL hk] at h
 unfold Rh
 cases hl:bU 58 l with
 | none=>rw[hl] at h;obtain⟨rfl,rfl⟩:=h;rfl
 | some j=>rw[hl] at h;obtain⟨⟨q,hq⟩,rfl⟩:=h;simp only;rw[hq];rfl
theorem nM (c:UInt8):∀ l:LU,bU c l=none→c ∉ l
 | [],_=>by simp
 | x::r,h=>by
  simp only[bU] at h
  cases hr:bU c r with
  | some i=>rw[hr] at h;cases h
  | none=>
   rw[hr] at h
   simp only at h
   split at h
   ·cases h
   ·rename_i hx
    have ih:=nM c r hr
    rw[List.mem_cons]
    rintro(e | e)
    ·exact hx e.symm
    ·exact ih e
theorem Pi {l:LU}{k:Nat}(hx:l[k]?=some 58)(ht:dL l=none):Rh l=none:=by
 unfold Rh
 cases hl:bU 58 l with
 | none=>exact absurd (gM hx) (nM 58 l hl)
 | some j=>simp only;rw[ht];rfl
theorem RM {fmt:Int}{l:LU}(h:Rh l=none):nd fmt l=none:=by unfold nd;rw[h]
def RO (fmt:Int)(ep:Nat)(r:Option (List Nat×LU)):Option aT:=match r with
 | none=>none
 | some (nums,r1)=>match iL (jj fmt) bu ([],0,(eI r1).2) with
  | none=>none
  | some (pre,pnum,r2)=>if eQ r2 (bK fmt)=true then (match dL (r2.drop (bK fmt).length) with
   | some (rev,[])=>some ⟨ep,nums,(eI r1).1,pre,pnum,rev⟩
   | _=>none) else none
theorem RP {fmt:Int}{l r:LU}{ep:Nat}(h:Rh l=some (ep,r)):nd fmt l=RO fmt ep (iK (r.length+1) [] r):=by unfold nd RO;rw[h];rfl
def IX (fmt:Int)(ep:Nat)(nums:List Nat)(lt:LU)(r:Option (LU×Nat×LU)):Option aT:=match r with
 | none=>none
 | some (pre,pnum,r2)=>if eQ r2 (bK fmt)=true then (match dL (r2.drop (bK fmt).length) with
  | some (rev,[])=>some ⟨ep,nums,lt,pre,pnum,rev⟩
  | _=>none) else none
def UC (t:Option (Nat×LU))(f:Nat→aT):Option aT:=match t with
 | some (rev,[])=>some (f rev)
 | _=>none
theorem Pj {fmt:Int}{ep pnum:Nat}{nums:List Nat}{lt pre r2:LU}(h:eQ r2 (bK fmt)=true):IX fmt ep nums lt (some (pre,pnum,r2))=UC (dL (r2.drop (bK fmt).length)) (fun rev=>⟨ep,nums,lt,pre,pnum,rev⟩):=by
 unfold IX
 simp only
 rw[if_pos h]
 cases dL (r2.drop (bK fmt).length) with
 | none=>rfl
 | some y=>obtain⟨a,b⟩:=y;cases b<;>rfl
theorem RQ {fmt:Int}{ep:Nat}{nums:List Nat}{r1:LU}:RO fmt ep (some (nums,r1))=IX fmt ep nums (eI r1).1 (iL (jj fmt) bu ([],0,(eI r1).2)):=rfl
theorem IY {k:Nat}{acc:List Nat}{l:LU}(h:dL l=none):iK (k+1) acc l=none:=by unfold iK;rw[h]
theorem Mp {k n:Nat}{acc:List Nat}{l t:LU}(h:dL l=some (n,46::t)):iK (k+1) acc l=iK k (acc++[n]) t:=by
 conv=>lhs;unfold iK;rw[h]
 rfl
theorem Mq {k n:Nat}{acc:List Nat}{l r:LU}(h:dL l=some (n,r))(hr:eQ r [46]=false):iK (k+1) acc l=some (acc++[n],r):=by
 unfold iK;rw[h]
 simp only
 split
 ·simp[eQ] at hr
 ·rfl
theorem Pk {r:LU}{c:UInt8}(h:eQ r [c]=true):r=c::r.drop 1:=by
 cases r with
 | nil=>simp[eQ] at h
 | cons a t=>simp[eQ] at h;subst h;rfl
theorem Bo {sg:UInt8}{w:LU}{ws:List (LU)}{p r:LU}{n:Nat}(h:¬ (p=[]∧eQ r (sg::w)=true)):iL sg (w::ws) (p,n,r)=iL sg ws (p,n,r):=by
 conv=>lhs;unfold iL
 rw[if_neg h]
theorem Pm {sg:UInt8}{w:LU}{ws:List (LU)}{p r:LU}{n:Nat}(h:p=[]∧eQ r (sg::w)=true)(ht:dL (r.drop (1+w.length))=none):iL sg (w::ws) (p,n,r)=none:=by
 unfold iL;rw[if_pos h];simp only[ht]
theorem Mr {sg:UInt8}{w:LU}{ws:List (LU)}{p r t:LU}{n m:Nat}(h:p=[]∧eQ r (sg::w)=true)(ht:dL (r.drop (1+w.length))=some (m,t)):iL sg (w::ws) (p,n,r)=iL sg ws (w,m,t):=by
 conv=>lhs;unfold iL
 rw[if_pos h];simp only[ht]
theorem IZ (k:Nat)(h:k<4):bu.drop k=bl (ci k)::bu.drop (k+1):=by
 rcases(by omega:k=0∨k=1∨k=2∨k=3) with rfl | rfl | rfl | rfl<;>rfl
theorem TQ {fmt:Int}(hf:dk fmt){s:BA}(hv:aV fmt s=0)(h:nd fmt (bl s)=none):dN fmt s=11:=by
 have:=we hf (cZ hf hv).1
 rw[h] at this
 unfold dN;rw[if_neg (by simpa using hv),if_pos this]
theorem RS {fmt:Int}(hf:dk fmt){s:BA}(hv:aV fmt s=0){c:aT}(h:nd fmt (bl s)=some c)(hn:fits fmt (bl s) c=false):dN fmt s=11:=by
 have:=we hf (cZ hf hv).1
 rw[h] at this
 simp only at this
 rw[if_neg (by rw[hn];simp)] at this
 unfold dN;rw[if_neg (by simpa using hv),if_pos this]
theorem Pn {fmt:Int}(hf:dk fmt){s:BA}(hv:aV fmt s=0){c:aT}(h:nd fmt (bl s)=some c)(hn:fits fmt (bl s) c=true):dN fmt s=0∧lF fmt (bl s)=some c:=by
 have:=we hf (cZ hf hv).1
 rw[h] at this
 simp only at this
 rw[if_pos hn] at this
 exact⟨by unfold dN;rw[if_neg (by simpa using hv),this,if_neg (by simp)],this⟩
theorem rU (s:BA)(w:World)(hs:s.size≤1000000){n:Nat}{r:LU}(h:dL (bl s)=some (n,r)):
  Calls Tryz.prog 80 #[.string s] w fun e w'=>e=.returned (.agg #[.int .i64 n,.string (bz r),.bool true])∧Below w.heap.size w w':=by
 have:=FT s w hs
 rw[h] at this;exact this
theorem vv (s:BA)(w:World)(hs:s.size≤1000000)(h:dL (bl s)=none):
  Calls Tryz.prog 80 #[.string s] w fun e w'=>e=.returned (.agg #[.int .i64 0,.string ⟨#[]⟩,.bool false])∧Below w.heap.size w w':=by
 have:=FT s w hs
 rw[h] at this;exact this
theorem kp (s t:BA)(b:Bool)(w:World)(hs:s.size≤1000000)(ht:t.size≤1000000)(h:eQ (bl s) (bl t)=b):
  Calls Tryz.prog 81 #[.string s,.string t] w fun e w'=>e=.returned (.bool b)∧w=w':=by
 rw[←h];exact IW s t w (by omega) (by omega)
theorem lH {tmps:Array Value}{w wr:World}(h:aF wr w.heap.size mX)(ht:tmps[4]?=some (.pointer (some ⟨w.heap.size,0,none⟩))){k:Int}(ht5:tmps[5]?=some (.int .i64 k))(a:Int)(A:Option Addr)(n c:Nat)(l p:BA)(x y:Int):
  (results Tryz.f51 tmps).run Tryz.prog (mU wr w.heap.size (.int .i64 a) (.slice A n c) (.string l) (.string p) (.int .i64 x) (.int .i64 y)) =
   .ok (.tuple #[.agg #[.int .i64 a,.slice A n c,.string l,.string p,.int .i64 x,.int .i64 y],.int .i64 k]) (mU wr w.heap.size (.int .i64 a) (.slice A n c) (.string l) (.string p) (.int .i64 x) (.int .i64 y)):=by
 obtain⟨r0,r1,r2,r3,r4,r5,f0,f1,f2,f3,f4,f5⟩:=jo h
 simp(maxDischargeDepth:=9) [results,Tryz.results51,ht,ht5,go_sem,r0,r1,r2,r3,r4,r5]
theorem iB {fmt:Int}{s:BA}{w wr:World}(E:dN fmt s=11)(hb:Below w.heap.size w wr):
  tp fmt s w (.returned (.tuple #[.agg #[.int .i64 0,.slice none 0 0,.string ⟨#[]⟩,.string ⟨#[]⟩,.int .i64 0,.int .i64 0],.int .i64 11])) (mU wr w.heap.size (.int .i64 0) (.slice none 0 0) (.string ⟨#[]⟩) (.string ⟨#[]⟩) (.int .i64 0) (.int .i64 0)):=
 ⟨bG.zero,by rw[E];rfl,Rd.nil _ _ _,bG.zero_few,(fun h=>by rw[E] at h;cases h),iu hb _ _ _ _ _ _⟩
structure xE (w wr:World) (cb base:Nat) (nv:Value) (L:List Nat) (vs:List Value):Prop where
 pc:xi w wr cb vs
 own:wr.ownsRow base 3 1 nv L.length (bZ L)
 lt:cb<base
theorem xE.step {w wr w':World}{cb base:Nat}{nv:Value}{L:List Nat}{vs:List Value}(h:xE w wr cb base nv L vs)(hb:Below wr.heap.size wr w'):xE w w' cb base nv L vs:=⟨h.pc.step hb,aR h.own hb,h.lt⟩
theorem xE.set {w wr:World}{cb base:Nat}{nv:Value}{L:List Nat}{vs:List Value}(h:xE w wr cb base nv L vs)(j:Nat)(hj:j<vs.length)(v:Value):xE w (wr.setCell ⟨cb,j,none⟩ v) cb base nv L (vs.set j v):=⟨h.pc.set j hj v,oE h.own h.lt v,h.lt⟩
end
section
open Go.RowKit Go.Deep
theorem GY (A B:Option Addr)(c d:Nat)(l m:List aB)(w:World)(h1:kF w A l)(h2:kF w B m)(he:l.map aB.plain=m.map aB.plain)(hl:l.length≤1000000)(hg:∀ x∈l,x.gives.length≤1000000):
  Calls Tryz.prog 14 #[.slice A l.length c,.slice B m.length d] w fun e w'=>e=.returned (.bool true)∧Below w.heap.size w w':=by
 have H1:=ae h1;have H2:=ae h2;have HE:=ae he;have HG:=ae hg
 have HL:=KG he
 rw[←HL]
 have HLM:=ae HL
 clear h1 h2 he hg HL
 have q:((l.length:Int) != (l.length:Int))=false:=by simp
 go_enter Tryz.func14,Tryz.ntmps14
 go_wp2_with fail
 go_loopw [5] (fun i wr=>∃ k:Nat,k≤l.length∧i=.int .i64 k∧Hid (Below w.heap.size w wr)) (fun i _=>l.length-(intOf i).toNat)
 case atStart=>exact⟨0,z0,rfl,bR⟩
 case round=>
  obtain⟨k,hk,rfl,HB⟩:=hrel
  by_cases hlt:k<l.length
  ·obtain⟨x,hx⟩:∃ x,l[k]?=some x:=⟨_,gG hlt⟩
   obtain⟨y,hy,hp⟩:=GX HE.out hx
   have hltm:k<m.length:=by rw[←HLM.out];exact hlt
   obtain⟨b1,o1,hA1,he1⟩:=(H1.out.row.below HB.out).elem lQ k x hx
   obtain⟨b2,o2,hA2,he2⟩:=(H2.out.row.below HB.out).elem lQ k y hy
   have R1:=(H1.out.all x (gM hx)).below HB.out
   have R2:=(H2.out.all y (gM hy)).below HB.out
   have hgl:=HG.out x (gM hx)
   obtain⟨nm,ver,ga,gc,gives⟩:=x
   obtain⟨nm',ver',ga',gc',gives'⟩:=y
   injection hp with p1 p2 p3
   simp only at R1 R2 hgl p1 p2 p3
   subst p1 p2 p3
   have e0:=he1 0 _ rfl
   have e1:=he1 1 _ rfl
   have e2:=he1 2 _ rfl
   have f0:=he2 0 _ rfl
   have f1:=he2 1 _ rfl
   have f2:=he2 2 _ rfl
   simp only[Nat.add_zero] at e0 f0 e1 e2 f1 f2
   have hix:=fun W=>aH (T:=36) (E:=48) (sz:=3) (c:=c) Tryz.underlying36 rfl Tryz.sizeOf48 hA1 hlt W
   have hiy:=fun W=>aH (T:=36) (E:=48) (sz:=3) (c:=d) Tryz.underlying36 rfl Tryz.sizeOf48 hA2 hltm W
   rw[←HLM.out] at hiy
   have SA:=ae fun W hb=>pM ga ga' gc gc' gives' W (R1.below (w':=W) hb) (R2.below hb) hgl
   have bl1:b1<wr.heap.size:=World.block_lt_of_cell? _ _ e0
   have bl2:b2<wr.heap.size:=World.block_lt_of_cell? _ _ f0
   clear hx hy hA1 hA2 he1 he2 R1 R2 hgl hltm
   generalize gives'.length=gl at *
   go_upto_region 6 with(fail)
   go_cut [54] (fun s wx=>s=.bool false∧Hid (Below wr.heap.size wr wx))
   case first=>
    go_region_held3 (fun w'=>w'.cell? ⟨b1,o1+k*3,none⟩=some (.string nm')∧w'.cell? ⟨b1,o1+k*3+1,none⟩=some (.string ver')∧w'.cell? ⟨b1,o1+k*3+2,none⟩=some (.slice ga gl gc)∧w'.cell? ⟨b2,o2+k*3,none⟩=some (.string nm')∧w'.cell? ⟨b2,o2+k*3+1,none⟩=some (.string ver')∧w'.cell? ⟨b2,o2+k*3+2,none⟩=some (.slice ga' gl gc'))
     (first
       | go_keep
       | exact⟨(hb4.cell (p:=⟨_,_,none⟩) bl1).trans e0,(hb4.cell (p:=⟨_,_,none⟩) bl1).trans e1,(hb4.cell (p:=⟨_,_,none⟩) bl1).trans e2,(hb4.cell (p:=⟨_,_,none⟩) bl2).trans f0,(hb4.cell (p:=⟨_,_,none⟩) bl2).trans f1,(hb4.cell (p:=⟨_,_,none⟩) bl2).trans f2⟩)
     (first
       | (go_at_call 26;refine(SA.out _ (BS bR)).mono ?_;rintro e w4 ⟨rfl,hb4⟩))
    all_goals
     have HB4:Hid (Below wr.heap.size wr w4):=ah (BS bR) hb4
     go_wp2_with fail
     go_meet
     exact⟨rfl,HB4⟩
   case rest=>
    obtain⟨rfl,HB4⟩:=hcut
    go_wp2_with fail
    go_roundw
    case rel=>exact⟨k+1,by omega,by go_num,ah HB.out HB4.out⟩
    case measure=>simp[intOf];omega
  ·go_wp2_with fail
   go_ret
   exact⟨rfl,HB.out⟩
end
end Go.Proofs.YtkjdbpjglobbjaaGreatDoor
