/- A part of the proof that ModelChecks holds. No condition. -/
import Derived.Test.YtdfdllbebfoggaaGreatDoorD26
set_option maxRecDepth 100000
set_option maxHeartbeats 20000000
set_option linter.unusedVariables false
set_option linter.unusedSimpArgs false
namespace Go.Proofs.YtdfdllbebfoggaaGreatDoor
section
open Go.RowKit Go.Deep
def endsV:BA:=⟨#[32,44,124,40,41,91,93]⟩
def endsN:BA:=⟨#[32,44,124,40,41,91,93,58]⟩
def endsW:BA:=⟨#[32,44,124,40,41,91,93,58,33]⟩
theorem endsV_eq (d:UInt8):(bl endsV).contains d=!nendV d:=by
 have:=of_bytes (fun c=>(bl endsV).contains c == !nendV c) (by kernel_rfl) d;simpa using this
theorem endsN_eq (d:UInt8):(bl endsN).contains d=!nendN d:=by
 have:=of_bytes (fun c=>(bl endsN).contains c == !nendN c) (by kernel_rfl) d;simpa using this
theorem endsW_eq (d:UInt8):(bl endsW).contains d=!nendW d:=by
 have:=of_bytes (fun c=>(bl endsW).contains c == !nendW c) (by kernel_rfl) d;simpa using this
theorem tok_place {q:UInt8→Bool}{s:BA}{p:Nat}{t r:LU}(hp:p≤s.size)(h:tok q ((bl s).drop p)=some (t,r)):t.length=runN q ((bl s).drop p)∧(bl s).drop (p+t.length)=r∧0<t.length∧p+t.length≤s.size:=by
 obtain⟨h1,h2,h3⟩:=tok_some h
 have hl:t.length=runN q ((bl s).drop p):=by rw[h2,List.length_take];have:=runN_le q ((bl s).drop p);omega
 have:=runN_room q s p hp
 refine⟨hl,?_,by omega,by omega⟩
 rw[hl,←List.drop_drop,h3]
theorem tok_zero {q:UInt8→Bool}{l:LU}(h:tok q l=none):runN q l=0:=by
 unfold tok at h;split at h
 ·assumption
 ·cases h
theorem ddep_until_none {E:BA}{q:UInt8→Bool}(hE:∀ d,(bl E).contains d=!q d)(a:Nat)(s:BA)(p n:Nat)(c:Int)(w:World)(hs:s.size≤4294967280)(h:DR w a s p n c)(hh:Hid (tok q ((bl s).drop p)=none)):
  Calls Tryz.prog 263 #[.pointer (some ⟨a,0,none⟩),.string E] w fun e w'=>e=.returned (.tuple #[.string ⟨#[]⟩,.bool false])∧DR w' a s p n c∧w.grownBy w' (some a):=by
 refine(ddep_until E q hE a s p n c w hs h).mono fun e w' ⟨h1,h2,h3⟩=>?_
 rw[tok_zero hh.out] at h1 h2
 exact⟨h1,h2,h3⟩
theorem ddep_until_some {E:BA}{q:UInt8→Bool}(hE:∀ d,(bl E).contains d=!q d)(t r:LU)(a:Nat)(s:BA)(p n:Nat)(c:Int)(w:World)(hs:s.size≤4294967280)(h:DR w a s p n c)(hh:Hid (tok q ((bl s).drop p)=some (t,r))):
  Calls Tryz.prog 263 #[.pointer (some ⟨a,0,none⟩),.string E] w fun e w'=>e=.returned (.tuple #[.string (mkB t),.bool true])∧DR w' a s (p+t.length) n c∧w.grownBy w' (some a):=by
 refine(ddep_until E q hE a s p n c w hs h).mono fun e w' ⟨h1,h2,h3⟩=>?_
 obtain⟨g1,g2,g3,g4⟩:=tok_place h.le hh.out
 obtain⟨k1,k2,k3⟩:=tok_some hh.out
 rw[←k2,dT k1] at h1
 rw[←g1] at h2
 exact⟨h1,h2,h3⟩
def WordPost (t:LU)(a:Nat)(s:BA)(p n:Nat)(c:Int)(w:World)(e:Ending)(w':World):Prop:=
 e=.returned (.tuple #[.string (mkB t),.bool true])∧(∃ c',DR w' a s (p+t.length) n c'∧(c'=0↔c=0∧dwordB t=true))∧w.grownBy w' (some a)
theorem ddep_rword_none (a:Nat)(s:BA)(p n:Nat)(c:Int)(w:World)(hs:s.size≤4294967280)(h:DR w a s p n c)(hh:Hid (tok nendW ((bl s).drop p)=none)):
  Calls Tryz.prog 265 #[.pointer (some ⟨a,0,none⟩)] w fun e w'=>e=.returned (.tuple #[.string ⟨#[]⟩,.bool false])∧DR w' a s p n c∧w.grownBy w' (some a):=by
 obtain⟨f,y,k⟩:=h.cells
 have c1:=k.c1
 have HD:=hid h;clear h k
 go_enter Tryz.func265,Tryz.ntmps265
 go_wp2_with fail
 refine(ddep_until_none endsW_eq a s p n c w hs HD.out hh).mono ?_;rintro e w1 ⟨rfl,hd,hg⟩
 have HD1:=hid hd;have HG1:=hid hg
 clear hd hg c1
 go_wp2_with fail
 go_ret2
 exact⟨rfl,HD1.out,HG1.out⟩
theorem ddep_rword_some (t r:LU)(a:Nat)(s:BA)(p n:Nat)(c:Int)(w:World)(hs:s.size≤4294967280)(h:DR w a s p n c)(hh:Hid (tok nendW ((bl s).drop p)=some (t,r))):
  Calls Tryz.prog 265 #[.pointer (some ⟨a,0,none⟩)] w (WordPost t a s p n c w):=by
 obtain⟨f,y,k⟩:=h.cells
 have c1:=k.c1
 have hz:(mkB t).size≤s.size:=by have:=(tok_place h.le hh.out).2.2.2;rw[mk_size];omega
 have HD:=hid h;clear h k
 have hW:=fun W=>ddep_word (mkB t) W (by omega)
 rw[bl_of] at hW
 cases hd:dwordB t with
 | true=>
  rw[hd] at hW
  have HT:=hid hd;clear hd
  go_enter Tryz.func265,Tryz.ntmps265
  go_wp2_with fail
  refine(ddep_until_some endsW_eq t r a s p n c w hs HD.out hh).mono ?_;rintro e w1 ⟨rfl,hd,hg⟩
  have HD1:=hid hd;have HG1:=hid hg
  clear hd hg c1
  go_wp2_with fail
  refine(hW _).mono ?_;rintro e w' ⟨rfl,rfl⟩
  go_wp2_with fail
  go_ret2
  exact⟨rfl,⟨c,HD1.out,by simp[HT.out]⟩,HG1.out⟩
 | false=>
  rw[hd] at hW
  have HT:=hid hd;clear hd
  go_enter Tryz.func265,Tryz.ntmps265
  go_wp2_with fail
  refine(ddep_until_some endsW_eq t r a s p n c w hs HD.out hh).mono ?_;rintro e w1 ⟨rfl,hd,hg⟩
  have HD1:=hid hd;have HG1:=hid hg
  clear hd hg c1
  go_wp2_with fail
  refine(hW _).mono ?_;rintro e w' ⟨rfl,rfl⟩
  go_wp2_with fail
  refine(ddep_note _ 10 a s _ n c w1 HD1.out).mono ?_;rintro e w2 ⟨rfl,hd,hg⟩
  have HD2:=hid hd;have HG2:=hid hg
  clear hd hg
  go_wp2_with fail
  go_ret2
  exact⟨rfl,⟨_,HD2.out,by rw[noteC_zero,HT.out];simp⟩,grown_thru HG1.out HG2.out⟩
theorem dTerm0 {l:LU}(h:tok nendN l=none):dTerm l=none:=by unfold dTerm;rw[h]
theorem dTerm1 {l nm r:LU}(h:tok nendN l=some (nm,r))(h1:dQual r=none):dTerm l=none:=by unfold dTerm;rw[h];simp only[h1]
theorem dTerm2 {l nm r q r1:LU}(h:tok nendN l=some (nm,r))(h1:dQual r=some (q,r1))(h2:dRelO (skipL r1)=none):dTerm l=none:=by unfold dTerm;rw[h];simp only[h1,h2]
theorem dTerm3 {l nm r q r1 v r2:LU}{op:Nat}(h:tok nendN l=some (nm,r))(h1:dQual r=some (q,r1))(h2:dRelO (skipL r1)=some (op,v,r2))(h3:dArchO r2=none):dTerm l=none:=by unfold dTerm;rw[h];simp only[h1,h2,h3]
theorem dTerm4 {l nm r q r1 v r2 r3:LU}{op:Nat}{ar:List (LU)}(h:tok nendN l=some (nm,r))(h1:dQual r=some (q,r1))(h2:dRelO (skipL r1)=some (op,v,r2))(h3:dArchO r2=some (ar,r3)):dTerm l=some (⟨nm,q,op,v,ar⟩,r3):=by unfold dTerm;rw[h];simp only[h1,h2,h3]
theorem dQual_no {r:LU}(h:head0 58 r=false):dQual r=some ([],r):=by unfold dQual;rw[h];rfl
theorem dQual_yes {r:LU}(h:head0 58 r=true):dQual r=tok nendW (r.drop 1):=by unfold dQual;rw[h];rfl
theorem dRelO_no {r:LU}(h:head0 40 r=false):dRelO r=some (0,[],r):=by unfold dRelO;rw[h];rfl
theorem dRelO_yes {r:LU}(h:head0 40 r=true):dRelO r=dRel (r.drop 1):=by unfold dRelO;rw[h];rfl
theorem dArchO_no {r:LU}(h:head0 91 r=false):dArchO r=some ([],r):=by unfold dArchO;rw[h];rfl
theorem dArchO_yes {r:LU}(h:head0 91 r=true):dArchO r=dArchs (r.length+1) (skipL (r.drop 1)):=by unfold dArchO;rw[h];rfl
structure TSt (w wr:World) (a:Nat) (s:BA) (k n:Nat) (c:Int) (vs:List Value):Prop where
 tb:Blk wr w.heap.size vs
 dr:DR wr a s k n c
 gr:w.grownBy wr (some a)
 lt:a<w.heap.size
theorem TSt.step {w wr w':World}{a:Nat}{s:BA}{k k' n n':Nat}{c c':Int}{vs:List Value}(h:TSt w wr a s k n c vs)(hg:wr.grownBy w' (some a))(hd:DR w' a s k' n' c'):TSt w w' a s k' n' c' vs:=
 ⟨h.tb.grownBy hg (by intro e;injection e with e;have:=h.lt;omega),hd,grown_thru h.gr hg,h.lt⟩
theorem TSt.set {w wr:World}{a:Nat}{s:BA}{k n:Nat}{c:Int}{vs:List Value}(h:TSt w wr a s k n c vs)(j:Nat)(hj:j<vs.length)(v:Value):TSt w (wr.setCell ⟨w.heap.size,j,none⟩ v) a s k n c (vs.set j v):=
 ⟨h.tb.set j hj v,h.dr.far (by have:=h.lt;omega) v,only_setCell h.gr (.inr lr) v,h.lt⟩
theorem TSt.start {w:World}{a:Nat}{s:BA}{k n:Nat}{c:Int}(h:DR w a s k n c)(vs:List Value)(t:TypeId):TSt w (w.alloc (.cells vs.toArray t)) a s k n c vs:=
 ⟨Blk.new w vs t,h.alloc _,World.grownBy_alloc w _ _,h.sz⟩
def TermPost (r:Option (Trm×LU))(a:Nat)(s:BA)(p n:Nat)(c:Int)(w:World)(e:Ending)(w':World):Prop:=
 w.grownBy w' (some a)∧match r with
  | none=>∃ (T:TrmM) (p' n':Nat) (c':Int),e=.returned (.tuple #[T.val,.bool false])∧DR w' a s p' n' c'
  | some (t,r)=>∃ (T:TrmM) (p':Nat) (c':Int),e=.returned (.tuple #[T.val,.bool true])∧T.pl=t∧T.own w' w.heap.size∧DR w' a s p' (n+1) c'∧p<p'∧(bl s).drop p'=r∧(c'=0↔c=0∧t.right=true∧n+1≤64)
theorem TSt.same {w wr:World}{a:Nat}{s:BA}{k n:Nat}{c:Int}{v0 v1 v2 v3 v4:Value}(h:TSt w wr a s k n c [v0,v1,v2,v3,v4]):TSt w (((((wr.setCell ⟨w.heap.size,0,none⟩ v0).setCell ⟨w.heap.size,1,none⟩ v1).setCell ⟨w.heap.size,2,none⟩ v2).setCell ⟨w.heap.size,3,none⟩ v3).setCell ⟨w.heap.size,4,none⟩ v4) a s k n c [v0,v1,v2,v3,v4]:=
 ((((h.set 0 (by simp) v0).set 1 (by simp) v1).set 2 (by simp) v2).set 3 (by simp) v3).set 4 (by simp) v4
theorem ddep_sign (ch:UInt8)(a:Nat)(s:BA)(p n:Nat)(c:Int)(w:World)(hs:s.size≤4294967280)(h:DR w a s p n c)(b:Bool)(hb:Hid (head0 ch ((bl s).drop p)=b)):
  Calls Tryz.prog 175 #[.pointer (some ⟨a,0,none⟩),.int .u8 ch.toNat] w fun e w'=>e=.returned (.bool b)∧DR w' a s (if b then p+1 else p) n c∧w.grownBy w' (some a):=by
 cases b with
 | true=>exact ddep_sign_yes ch a s p n c w hs h hb
 | false=>exact ddep_sign_no ch a s p n c w hs h hb
theorem right_of (t:Trm):t.right=true↔dnameB t.name=true∧(t.qual=[]∨dwordB t.qual=true)∧(t.archs.all fun a=>dwordB (aBare a))=true∧(t.op=0∨verE 1 (mkB t.ver)=0):=by
 unfold Trm.right;simp[and_assoc]
end
end Go.Proofs.YtdfdllbebfoggaaGreatDoor
