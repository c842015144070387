/- A part of the proof that ModelPackages holds. No condition. -/
import Derived.Test.YtdfdllbebfoggaaGreatDoorC25
set_option maxRecDepth 100000
set_option maxHeartbeats 20000000
set_option linter.unusedVariables false
set_option linter.unusedSimpArgs false
namespace Go.Proofs.YtdfdllbebfoggaaGreatDoor
section
open Go.RowKit Go.Deep
theorem ddep_note (x e:Int)(a:Nat)(s:ByteArray)(p n:Nat)(c:Int)(w:World)(h:DR w a s p n c):
  Calls Tryz.prog 264 #[.pointer (some ⟨a,0,none⟩),.int .i64 x,.int .i64 e] w fun en w'=>en=.returned (.tuple #[])∧DR w' a s p n (noteC c e)∧w.grownBy w' (some a):=by
 obtain⟨f,y,k⟩:=h.cells
 have HD:=hid h;clear h
 obtain⟨c0,c1,c2,c3,c4,c5,f0,f1,f2,f3,f4,f5⟩:=k
 clear c0 c1 c2 f0 f1 f2
 by_cases hc:c=0
 ·subst hc
  by_cases he:e=0
  ·subst he
   go_enter Tryz.func264,Tryz.ntmps264
   go_wp2_with fail
   go_end0
   exact⟨rfl,HD.out,World.grownBy.refl _ _⟩
  ·have he1:(e != 0)=true:=by simp[he]
   have HN:Hid (noteC 0 e=e):=by simp[Hid,noteC]
   clear he
   go_enter Tryz.func264,Tryz.ntmps264
   go_wp2_with fail
   go_end0
   exact⟨rfl,by rw[HN.out];exact HD.out.noted _ _ _,grown_thru (grown_thru (kept_set _) (kept_set _)) (kept_set _)⟩
 ·have hc1:(c==0)=false:=by simp[hc]
  have HN:Hid (noteC c e=c):=by simp[Hid,noteC,hc]
  clear hc
  go_enter Tryz.func264,Tryz.ntmps264
  go_wp2_with fail
  go_end0
  exact⟨rfl,by rw[HN.out];exact HD.out,World.grownBy.refl _ _⟩
theorem ddep_sign_yes (ch:UInt8)(a:Nat)(s:ByteArray)(p n:Nat)(c:Int)(w:World)(hs:s.size≤4294967280)(h:DR w a s p n c)(hh:Hid (head0 ch ((bl s).drop p)=true)):
  Calls Tryz.prog 175 #[.pointer (some ⟨a,0,none⟩),.int .u8 ch.toNat] w fun e w'=>e=.returned (.bool true)∧DR w' a s (p+1) n c∧w.grownBy w' (some a):=by
 have hlt:p<s.size:=by
  rcases Nat.lt_or_ge p s.size with h1 | h1
  ·exact h1
  ·have:=hh.out;rw[head_end s p ch (by omega)] at this;cases this
 have e1:s[p]=ch:=by have:=hh.out;rw[head_at s p ch hlt] at this;simpa using this
 obtain⟨f,y,k⟩:=h.cells
 have HM:=hid (h.move (q:=p+1) (by omega) (by omega));clear h hh
 obtain⟨c0,c1,c2,c3,c4,c5,f0,f1,f2,f3,f4,f5⟩:=k
 clear c2 c3 c4 c5 f0 f2 f3 f4 f5
 go_enter Tryz.func175,Tryz.ntmps175
 go_wp2_with fail
 go_quiet (fail)
 go_wp2_with fail
 go_ret
 exact⟨rfl,HM.out.drewN _,only_drewN (kept_set _) _⟩
theorem ddep_sign_no (ch:UInt8)(a:Nat)(s:ByteArray)(p n:Nat)(c:Int)(w:World)(hs:s.size≤4294967280)(h:DR w a s p n c)(hh:Hid (head0 ch ((bl s).drop p)=false)):
  Calls Tryz.prog 175 #[.pointer (some ⟨a,0,none⟩),.int .u8 ch.toNat] w fun e w'=>e=.returned (.bool false)∧DR w' a s p n c∧w.grownBy w' (some a):=by
 obtain⟨f,y,k⟩:=h.cells
 have HD:=hid h;clear h
 obtain⟨c0,c1,c2,c3,c4,c5,f0,f1,f2,f3,f4,f5⟩:=k
 clear c2 c3 c4 c5 f0 f2 f3 f4 f5
 by_cases hlt:p<s.size
 ·obtain⟨d,hd⟩:∃ d:UInt8,s[p]=d:=⟨_,rfl⟩
  have e1:((d.toNat:Int)==(ch.toNat:Int))=false:=by have:=hh.out;rw[head_at s p ch hlt,hd] at this;rw[toNat_beq];exact this
  clear hh
  go_enter Tryz.func175,Tryz.ntmps175
  go_wp2_with fail
  go_quiet (fail)
  go_wp2_with fail
  go_ret
  exact⟨rfl,HD.out.drewN _,only_drewN (World.grownBy.refl _ _) _⟩
 ·have hlt2:decide (p<s.size)=false:=decide_eq_false hlt
  clear hh
  go_enter Tryz.func175,Tryz.ntmps175
  go_wp2_with fail
  go_quiet (fail)
  go_wp2_with fail
  go_ret
  exact⟨rfl,HD.out.drewN _,only_drewN (World.grownBy.refl _ _) _⟩
theorem ddep_blanks (a:Nat)(s:ByteArray)(p n:Nat)(c:Int)(w:World)(hs:s.size≤4294967280)(h:DR w a s p n c):
  Calls Tryz.prog 173 #[.pointer (some ⟨a,0,none⟩)] w fun e w'=>e=.returned (.bool (head0 32 ((bl s).drop p)))∧DR w' a s (p+runN blankB ((bl s).drop p)) n c∧w.grownBy w' (some a):=by
 obtain⟨f,y,k⟩:=h.cells
 have c1:=k.c1
 have hp:=h.le
 have HD:=hid h;clear h k
 go_enter Tryz.func173,Tryz.ntmps173
 go_wp2_with fail
 go_loopw [] (fun wr=>∃ k:Nat,p≤k∧k≤s.size∧Hid (DR wr a s k n c)∧Hid (w.grownBy wr (some a))∧Hid (p+runN blankB ((bl s).drop p)=k+runN blankB ((bl s).drop k))) (fun wr=>s.size-atOf a wr)
 case atStart=>exact⟨p,lr,hp,HD,World.grownBy.refl _ _,rfl⟩
 case round=>
  clear c1
  obtain⟨k,hk1,hk2,HR,HG,HN⟩:=hrel
  obtain⟨f',y',K⟩:=HR.out.cells
  obtain⟨c0,c1,c2,c3,c4,c5,f0,f1,f2,f3,f4,f5⟩:=K
  clear c2 c3 c4 c5 f0 f2 f3 f4 f5
  have MA:=hid HR.out.at_
  by_cases hlt:k<s.size
  ·obtain⟨d,hd⟩:∃ d:UInt8,s[k]=d:=⟨_,rfl⟩
   by_cases h32:d.toNat=32
   ·have HN2:Hid (p+runN blankB ((bl s).drop p)=(k+1)+runN blankB ((bl s).drop (k+1))):=by
     have:=HN.out;rw[runN_step s k hlt (by rw[hd];simp[blankB];exact UInt8.toNat_inj.1 h32)] at this;show _=_;omega
    have HM:=hid (HR.out.move (q:=k+1) (by omega) (by omega))
    go_wp2_with fail
    go_quiet (fail)
    go_wp2_with fail
    go_roundw
    case rel=>exact⟨k+1,by omega,by omega,HM.out.drewN _,only_drewN (grown_thru HG.out (kept_set _)) _,HN2⟩
    case measure=>exact DR.dec (HM.out.drewN _) HR.out (Nat.lt_succ_self _)
   ·have h32':((d.toNat:Int)==32)=false:=by simp;omega
    have HE:Hid (p+runN blankB ((bl s).drop p)=k):=by
     have:=HN.out;rw[runN_halt s k hlt (by rw[hd];simp[blankB];intro e;exact h32 (by rw[e];rfl))] at this;exact this
    have HB:Hid (head0 32 ((bl s).drop p)=decide (p<k)):=by
     have:=HE.out;show _=_;rw[←blank_head];congr 1;simp;omega
    clear h32
    go_wp2_with fail
    go_quiet (fail)
    go_wp2_with fail
    go_ret
    exact⟨ret_bool (by rw[HB.out]),by rw[HE.out];exact HR.out.drewN _,only_drewN HG.out _⟩
  ·have hlt2:decide (k<s.size)=false:=decide_eq_false hlt
   have HE:Hid (p+runN blankB ((bl s).drop p)=k):=by
    have:=HN.out;rw[runN_end _ s k hlt] at this;exact this
   have HB:Hid (head0 32 ((bl s).drop p)=decide (p<k)):=by
    have:=HE.out;show _=_;rw[←blank_head];congr 1;simp;omega
   go_wp2_with fail
   go_quiet (fail)
   go_wp2_with fail
   go_ret
   exact⟨ret_bool (by rw[HB.out]),by rw[HE.out];exact HR.out.drewN _,only_drewN HG.out _⟩
def UntilPost (q:UInt8→Bool)(a:Nat)(s:ByteArray)(p n:Nat)(c:Int)(w:World)(e:Ending)(w':World):Prop:=
 e=.returned (.tuple #[.string (mkB (((bl s).drop p).take (runN q ((bl s).drop p)))),.bool (decide (0<runN q ((bl s).drop p)))])∧DR w' a s (p+runN q ((bl s).drop p)) n c∧w.grownBy w' (some a)
theorem ext_run (q:UInt8→Bool)(s:ByteArray)(p k:Nat)(h:p+runN q ((bl s).drop p)=k):s.extract p k=mkB (((bl s).drop p).take (runN q ((bl s).drop p))):=by
 apply eq_mk;rw[bl_extract];congr 1;omega
theorem ddep_until (E:ByteArray)(q:UInt8→Bool)(hE:∀ d,(bl E).contains d=!q d)(a:Nat)(s:ByteArray)(p n:Nat)(c:Int)(w:World)(hs:s.size≤4294967280)(h:DR w a s p n c):
  Calls Tryz.prog 263 #[.pointer (some ⟨a,0,none⟩),.string E] w (UntilPost q a s p n c w):=by
 have HE:=hid hE;clear hE
 obtain⟨f,y,k⟩:=h.cells
 have c1:=k.c1
 have hp:=h.le
 have HD:=hid h;clear h k
 go_enter Tryz.func263,Tryz.ntmps263
 go_wp2_with fail
 go_loopw [] (fun wr=>∃ k:Nat,p≤k∧k≤s.size∧Hid (DR wr a s k n c)∧Hid (w.grownBy wr (some a))∧Hid (p+runN q ((bl s).drop p)=k+runN q ((bl s).drop k))) (fun wr=>s.size-atOf a wr)
 case atStart=>exact⟨p,lr,hp,HD,World.grownBy.refl _ _,rfl⟩
 case round=>
  clear c1
  obtain⟨k,hk1,hk2,HR,HG,HN⟩:=hrel
  obtain⟨f',y',K⟩:=HR.out.cells
  obtain⟨c0,c1,c2,c3,c4,c5,f0,f1,f2,f3,f4,f5⟩:=K
  clear c2 c3 c4 c5 f0 f2 f3 f4 f5
  have MA:=hid HR.out.at_
  have hpk:(p:Int)≤(k:Int):=by omega
  have hks:(k:Int)≤(s.size:Int):=by omega
  by_cases hlt:k<s.size
  ·obtain⟨d,hd⟩:∃ d:UInt8,s[k]=d:=⟨_,rfl⟩
   have hI:=fun W=>(IndexByte_any E d W).mono (fun (_:Ending) (_:World) ⟨he,hw⟩=>(⟨he,hw.symm⟩:_∧_))
   cases hq:q d with
   | true=>
    have hn:ixB E d<0:=ixB_neg E d (by rw[HE.out,hq];rfl)
    have hn2:decide (ixB E d<0)=true:=decide_eq_true hn
    have HN2:Hid (p+runN q ((bl s).drop p)=(k+1)+runN q ((bl s).drop (k+1))):=by
     have:=HN.out;rw[runN_step s k hlt (by rw[hd];exact hq)] at this;show _=_;omega
    have HM:=hid (HR.out.move (q:=k+1) (by omega) (by omega))
    clear hq
    generalize ixB E d=i at hI hn hn2
    go_wp2_with fail
    go_quiet ((go_at_call 82;exact Calls.quiet_of_same (hI _)))
    go_wp2_with fail
    go_roundw
    case rel=>exact⟨k+1,by omega,by omega,HM.out.drewN _,only_drewN (grown_thru HG.out (kept_set _)) _,HN2⟩
    case measure=>exact DR.dec (HM.out.drewN _) HR.out (Nat.lt_succ_self _)
   | false=>
    have hn:0≤ixB E d:=ixB_pos E d (by rw[HE.out,hq];rfl)
    have hn2:decide (ixB E d<0)=false:=decide_eq_false (by omega)
    have HX:Hid (p+runN q ((bl s).drop p)=k):=by
     have:=HN.out;rw[runN_halt s k hlt (by rw[hd];exact hq)] at this;exact this
    clear hq
    generalize ixB E d=i at hI hn hn2
    go_wp2_with fail
    go_quiet ((go_at_call 82;exact Calls.quiet_of_same (hI _)))
    go_wp2_with fail
    go_quiet (fail)
    go_wp2_with fail
    go_ret2
    refine⟨?_,by rw[HX.out];exact(HR.out.drewN _).drewN _,only_drewN (only_drewN HG.out _) _⟩
    have:=HX.out
    rw[←ext_run q s p k this];congr 5;simp;omega
  ·have hlt2:decide (k<s.size)=false:=decide_eq_false hlt
   have HX:Hid (p+runN q ((bl s).drop p)=k):=by
    have:=HN.out;rw[runN_end _ s k hlt] at this;exact this
   go_wp2_with fail
   go_quiet (fail)
   go_wp2_with fail
   go_quiet (fail)
   go_wp2_with fail
   go_ret2
   refine⟨?_,by rw[HX.out];exact(HR.out.drewN _).drewN _,only_drewN (only_drewN HG.out _) _⟩
   have:=HX.out
   rw[←ext_run q s p k this];congr 5;simp;omega
end
section
open Go.RowKit
inductive Rch where
 | atom (name:List UInt8) (op:Nat) (ver:List UInt8)
 | node (op:List UInt8) (kids:List Rch)
def rEnd:Nat→List UInt8→Nat
 | _,[]=>0
 | o,c::r=>if c==32 then 0 else if c==40 then rEnd (o+1) r+1 else if c==41 then (if o=0 then 0 else rEnd (o-1) r+1) else rEnd o r+1
def brB (c:UInt8):Bool:=c==40||c==41
def rLen:List UInt8→Nat
 | []=>0
 | c::r=>if brB c then 1 else rEnd 0 (c::r)
def rLook (l:List UInt8):List UInt8:=(skipL l).take (rLen (skipL l))
def rNext (l:List UInt8):List UInt8:=(skipL l).drop (rLen (skipL l))
theorem rEnd_le:∀ (l:List UInt8)(o:Nat),rEnd o l≤l.length
 | [],_=>by simp[rEnd]
 | c::r,o=>by
  unfold rEnd
  have h1:=rEnd_le r (o+1)
  have h2:=rEnd_le r (o-1)
  have h3:=rEnd_le r o
  repeat' split
  all_goals simp
  all_goals omega
theorem rLen_le (l:List UInt8):rLen l≤l.length:=by
 cases l with
 | nil=>simp[rLen]
 | cons c r=>
  show(if brB c then 1 else rEnd 0 (c::r))≤(c::r).length
  split
  ·simp
  ·exact rEnd_le _ _
theorem skip_head {l r:List UInt8}{c:UInt8}(h:skipL l=c::r):(c==32)=false:=by
 have h1:=skip_zero l
 rw[h,runN_cons] at h1
 cases hc:blankB c with
 | true=>rw[hc] at h1;simp at h1
 | false=>exact hc
theorem rLen_pos {l:List UInt8}(h:skipL l≠[]):0<rLen (skipL l):=by
 cases hs:skipL l with
 | nil=>exact absurd hs h
 | cons c r=>
  have h0:=skip_head hs
  show 0<(if brB c then 1 else rEnd 0 (c::r))
  split
  ·omega
  ·rename_i hb
   have h1:(c==40)=false:=by unfold brB at hb;cases h:(c==40) with
    | false=>rfl
    | true=>rw[h] at hb;simp at hb
   have h2:(c==41)=false:=by unfold brB at hb;cases h:(c==41) with
    | false=>rfl
    | true=>rw[h] at hb;simp at hb
   show 0<(if c==32 then 0 else if c==40 then rEnd (0+1) r+1 else if c==41 then (if 0=0 then 0 else rEnd (0-1) r+1) else rEnd 0 r+1)
   rw[h0,h1,h2];simp
theorem rNext_lt {l:List UInt8}(h:skipL l≠[]):(rNext l).length<l.length:=by
 have h1:=rLen_pos h
 have h2:=rLen_le (skipL l)
 have h3:=skipL_le l
 unfold rNext;rw[List.length_drop];omega
theorem rLook_nil {l:List UInt8}:rLook l=[]↔skipL l=[]:=by
 constructor
 ·intro h
  by_cases h0:skipL l=[]
  ·exact h0
  ·have h1:=rLen_pos h0
   have h2:=rLen_le (skipL l)
   unfold rLook at h
   have:=congrArg List.length h
   rw[List.length_take,List.length_nil] at this;omega
 ·intro h;unfold rLook;rw[h];rfl
def rOp (p:List UInt8):Nat:=if p=[60] then 1 else if p=[60,61] then 2 else if p=[61] then 3 else if p=[62,61] then 4 else if p=[62] then 5 else 0
def wAnd:List UInt8:=[97,110,100]
def wOr:List UInt8:=[111,114]
def wIf:List UInt8:=[105,102]
def wUnless:List UInt8:=[117,110,108,101,115,115]
def wWith:List UInt8:=[119,105,116,104]
def wWithout:List UInt8:=[119,105,116,104,111,117,116]
def wElse:List UInt8:=[101,108,115,101]
def rWordB (p:List UInt8):Bool:=decide (p=wAnd∨p=wOr∨p=wIf∨p=wUnless∨p=wWith∨p=wWithout)
def rFollows (op:List UInt8)(n:Nat)(p:List UInt8):Bool:=
 if n=1 then rWordB p else decide ((op=wAnd∨op=wOr)∧p=op∨(op=wIf∨op=wUnless)∧n=2∧p=wElse)
def rAtomV (name:List UInt8)(op n:Nat)(l:List UInt8):Option (Rch×List UInt8×Nat):=
 if rLook l=[]∨rLook l=[40]∨rLook l=[41] then none else if verE 2 (mkB (rLook l))=0 then some (.atom name op (rLook l),rNext l,n) else none
def rAtomR (name:List UInt8)(n:Nat)(l:List UInt8):Option (Rch×List UInt8×Nat):=
 if rOp (rLook l)=0 then some (.atom name 0 [],l,n) else rAtomV name (rOp (rLook l)) n (rNext l)
def rAtom (n:Nat)(l:List UInt8):Option (Rch×List UInt8×Nat):=
 if n=64 then none else if rnameB (rLook l) then rAtomR (rLook l) (n+1) (rNext l) else none
mutual
def rDep:Nat→Nat→Nat→List UInt8→Option (Rch×List UInt8×Nat)
 | 0,_,_,_=>none
 | f+1,deep,n,l=>
  if rLook l=[]∨rLook l=[41] then none
  else if rLook l=[40] then (if deep=32 then none else rGrp f (deep+1) n [] [] (rNext l))
  else rAtom n l
def rGrp:Nat→Nat→Nat→List Rch→List UInt8→List UInt8→Option (Rch×List UInt8×Nat)
 | 0,_,_,_,_,_=>none
 | f+1,deep,n,acc,op,l=>match rDep f deep n l with
  | none=>none
  | some (k,l1,n1)=>
   if rLook l1=[41]∧acc≠[] then some (.node op (acc++[k]),rNext l1,n1)
   else if rFollows op (acc.length+1) (rLook l1) then rGrp f deep n1 (acc++[k]) (if acc=[] then rLook l1 else op) (rNext l1)
   else none
end
def rParse (l:List UInt8):Option Rch:=match rDep (2*l.length+2) 0 0 l with
 | none=>none
 | some (d,r,_)=>if rLook r=[] then some d else none
def sgR:Nat→List UInt8
 | 1=>[60]
 | 2=>[60,61]
 | 3=>[61]
 | 4=>[62,61]
 | 5=>[62]
 | _=>[]
def rWd (op:List UInt8)(i:Nat):List UInt8:=if 2≤i∧(op=wIf∨op=wUnless) then wElse else op
mutual
def rText:Rch→List UInt8
 | .atom nm op v=>if op=0 then nm else nm++[32]++sgR op++[32]++v
 | .node op ks=>[40]++rTail op 0 ks++[41]
def rTail (op:List UInt8):Nat→List Rch→List UInt8
 | _,[]=>[]
 | i,k::r=>(if i=0 then [] else [32]++rWd op i++[32])++rText k++rTail op (i+1) r
end
def writtenR (l:List UInt8):Bool:=!l.isEmpty&&(match rParse l with | some d=>decide (rText d=l) | none=>false)
end
section
open Go.RowKit Go.Deep
structure RX (w:World) (a:Nat) (s:ByteArray) (p n:Nat) (c:Int):Prop where
 blk:∃ (f:ByteArray) (x:Int),Blk w a [.string s,.int .i64 p,.string f,.int .i64 x,.int .i64 c,.int .i64 n]
 le:p≤s.size
theorem RX.grown {w w':World}{a:Nat}{row:Option Nat}{s:ByteArray}{p n:Nat}{c:Int}(h:RX w a s p n c)(hg:w.grownBy w' row)(hne:some a≠row):RX w' a s p n c:=by
 obtain⟨f,x,k⟩:=h.blk;exact⟨⟨f,x,k.grownBy hg hne⟩,h.le⟩
theorem RX.below {w w':World}{a:Nat}{s:ByteArray}{p n:Nat}{c:Int}(h:RX w a s p n c)(hb:Below w.heap.size w w'):RX w' a s p n c:=h.grown (below_grows hb none) (by simp)
theorem RX.alloc {w:World}{a:Nat}{s:ByteArray}{p n:Nat}{c:Int}(h:RX w a s p n c)(o:Obj):RX (w.alloc o) a s p n c:=h.below ((Below.refl _ _).alloc lr o)
theorem RX.drewN {w:World}{a:Nat}{s:ByteArray}{p n:Nat}{c:Int}(h:RX w a s p n c)(k:Nat):RX (w.drewN k) a s p n c:=h.below ⟨rfl,rfl,rfl,lr,fun _ _=>rfl⟩
theorem RX.sz {w:World}{a:Nat}{s:ByteArray}{p n:Nat}{c:Int}(h:RX w a s p n c):a<w.heap.size:=by obtain⟨f,x,k⟩:=h.blk;exact k.sz
theorem RX.move {w:World}{a:Nat}{s:ByteArray}{p n q:Nat}{c:Int}(h:RX w a s p n c)(h2:q≤s.size):RX (w.setCell ⟨a,1,none⟩ (.int .i64 q)) a s q n c:=by
 obtain⟨f,x,k⟩:=h.blk;exact⟨⟨f,x,k.set 1 (by simp) _⟩,h2⟩
theorem RX.count {w:World}{a:Nat}{s:ByteArray}{p n:Nat}{c:Int}(h:RX w a s p n c)(m:Nat):RX (w.setCell ⟨a,5,none⟩ (.int .i64 m)) a s p m c:=by
 obtain⟨f,x,k⟩:=h.blk;exact⟨⟨f,x,k.set 5 (by simp) _⟩,h.le⟩
theorem RX.noted {w:World}{a:Nat}{s:ByteArray}{p n:Nat}{c:Int}(h:RX w a s p n c)(f:ByteArray)(x e:Int):RX (((w.setCell ⟨a,2,none⟩ (.string f)).setCell ⟨a,3,none⟩ (.int .i64 x)).setCell ⟨a,4,none⟩ (.int .i64 e)) a s p n e:=by
 obtain⟨f',x',k⟩:=h.blk;exact⟨⟨f,x,((k.set 2 (by simp) _).set 3 (by simp) _).set 4 (by simp) _⟩,h.le⟩
structure RXc (w:World) (a:Nat) (s:ByteArray) (p n:Nat) (f:ByteArray) (x c:Int):Prop where
 c0:w.cell? ⟨a,0,none⟩=some (.string s)
 c1:w.cell? ⟨a,1,none⟩=some (.int .i64 p)
 c2:w.cell? ⟨a,2,none⟩=some (.string f)
 c3:w.cell? ⟨a,3,none⟩=some (.int .i64 x)
 c4:w.cell? ⟨a,4,none⟩=some (.int .i64 c)
 c5:w.cell? ⟨a,5,none⟩=some (.int .i64 n)
 f1:w.frozen? ⟨a,1,none⟩=false
 f2:w.frozen? ⟨a,2,none⟩=false
 f3:w.frozen? ⟨a,3,none⟩=false
 f4:w.frozen? ⟨a,4,none⟩=false
 f5:w.frozen? ⟨a,5,none⟩=false
theorem RX.cells {w:World}{a:Nat}{s:ByteArray}{p n:Nat}{c:Int}(h:RX w a s p n c):∃ f x,RXc w a s p n f x c:=by
 obtain⟨f,x,k⟩:=h.blk
 exact⟨f,x,k.cell 0 _ rfl,k.cell 1 _ rfl,k.cell 2 _ rfl,k.cell 3 _ rfl,k.cell 4 _ rfl,k.cell 5 _ rfl,k.free 1 (by simp),k.free 2 (by simp),k.free 3 (by simp),k.free 4 (by simp),k.free 5 (by simp)⟩
theorem RX.at_ {w:World}{a:Nat}{s:ByteArray}{p n:Nat}{c:Int}(h:RX w a s p n c):atOf a w=p:=by
 obtain⟨f,x,k⟩:=h.cells;unfold atOf;rw[k.c1];simp
end
end Go.Proofs.YtdfdllbebfoggaaGreatDoor
