/- A part of the proof that ModelChecks holds. No condition. -/
import Derived.LaidEqlPtr
import Derived.Laws.StructEq
import Derived.MapKept
import Derived.Test.YtdfdllbebfoggaaGreatDoorD24
set_option maxRecDepth 100000
set_option maxHeartbeats 20000000
set_option linter.unusedVariables false
set_option linter.unusedSimpArgs false
namespace Go.Proofs.YtdfdllbebfoggaaGreatDoor
section
open Go.RowKit
inductive Rch where
 | atom (name:LU) (op:Nat) (ver:LU)
 | node (op:LU) (kids:List Rch)
def rEnd:Nat→LU→Nat
 | _,[]=>0
 | o,c::r=>if c==32 then 0 else if c==40 then rEnd (o+1) r+1 else if c==41 then (if o=0 then 0 else rEnd (o-1) r+1) else rEnd o r+1
def brB (c:UInt8):Bool:=c==40||c==41
def rLen:LU→Nat
 | []=>0
 | c::r=>if brB c then 1 else rEnd 0 (c::r)
def rLook (l:LU):LU:=(skipL l).take (rLen (skipL l))
def rNext (l:LU):LU:=(skipL l).drop (rLen (skipL l))
theorem rEnd_le:∀ (l:LU)(o:Nat),rEnd o l≤l.length
 | [],_=>by simp[rEnd]
 | c::r,o=>by
  unfold rEnd
  have h1:=rEnd_le r (o+1)
  have h2:=rEnd_le r (o-1)
  have h3:=rEnd_le r o
  repeat' split
  all_goals simp
  all_goals omega
theorem rLen_le (l:LU):rLen l≤l.length:=by
 cases l with
 | nil=>simp[rLen]
 | cons c r=>
  show(if brB c then 1 else rEnd 0 (c::r))≤(c::r).length
  split
  ·simp
  ·exact rEnd_le _ _
theorem skip_head {l r:LU}{c:UInt8}(h:skipL l=c::r):(c==32)=false:=by
 have h1:=skip_zero l
 rw[h,runN_cons] at h1
 cases hc:blankB c with
 | true=>rw[hc] at h1;simp at h1
 | false=>exact hc
theorem rLen_pos {l:LU}(h:skipL l≠[]):0<rLen (skipL l):=by
 cases hs:skipL l with
 | nil=>exact absurd hs h
 | cons c r=>
  have h0:=skip_head hs
  show 0<(if brB c then 1 else rEnd 0 (c::r))
  split
  ·omega
  ·rename_i hb
   have h1:(c==40)=false:=by unfold brB at hb;cases h:(c==40) with
    | false=>rfl
    | true=>rw[h] at hb;simp at hb
   have h2:(c==41)=false:=by unfold brB at hb;cases h:(c==41) with
    | false=>rfl
    | true=>rw[h] at hb;simp at hb
   show 0<(if c==32 then 0 else if c==40 then rEnd (0+1) r+1 else if c==41 then (if 0=0 then 0 else rEnd (0-1) r+1) else rEnd 0 r+1)
   rw[h0,h1,h2];simp
theorem rNext_lt {l:LU}(h:skipL l≠[]):(rNext l).length<l.length:=by
 have h1:=rLen_pos h
 have h2:=rLen_le (skipL l)
 have h3:=skipL_le l
 unfold rNext;rw[List.length_drop];omega
theorem rLook_nil {l:LU}:rLook l=[]↔skipL l=[]:=by
 constructor
 ·intro h
  by_cases h0:skipL l=[]
  ·exact h0
  ·have h1:=rLen_pos h0
   have h2:=rLen_le (skipL l)
   unfold rLook at h
   have:=congrArg List.length h
   rw[List.length_take,List.length_nil] at this;omega
 ·intro h;unfold rLook;rw[h];rfl
def rOp (p:LU):Nat:=if p=[60] then 1 else if p=[60,61] then 2 else if p=[61] then 3 else if p=[62,61] then 4 else if p=[62] then 5 else 0
def wAnd:LU:=[97,110,100]
def wOr:LU:=[111,114]
def wIf:LU:=[105,102]
def wUnless:LU:=[117,110,108,101,115,115]
def wWith:LU:=[119,105,116,104]
def wWithout:LU:=[119,105,116,104,111,117,116]
def wElse:LU:=[101,108,115,101]
def rWordB (p:LU):Bool:=decide (p=wAnd∨p=wOr∨p=wIf∨p=wUnless∨p=wWith∨p=wWithout)
def rFollows (op:LU)(n:Nat)(p:LU):Bool:=
 if n=1 then rWordB p else decide ((op=wAnd∨op=wOr)∧p=op∨(op=wIf∨op=wUnless)∧n=2∧p=wElse)
def rAtomV (name:LU)(op n:Nat)(l:LU):Option (Rch×LU×Nat):=
 if rLook l=[]∨rLook l=[40]∨rLook l=[41] then none else if verE 2 (mkB (rLook l))=0 then some (.atom name op (rLook l),rNext l,n) else none
def rAtomR (name:LU)(n:Nat)(l:LU):Option (Rch×LU×Nat):=
 if rOp (rLook l)=0 then some (.atom name 0 [],l,n) else rAtomV name (rOp (rLook l)) n (rNext l)
def rAtom (n:Nat)(l:LU):Option (Rch×LU×Nat):=
 if n=64 then none else if rnameB (rLook l) then rAtomR (rLook l) (n+1) (rNext l) else none
mutual
def rDep:Nat→Nat→Nat→LU→Option (Rch×LU×Nat)
 | 0,_,_,_=>none
 | f+1,deep,n,l=>
  if rLook l=[]∨rLook l=[41] then none
  else if rLook l=[40] then (if deep=32 then none else rGrp f (deep+1) n [] [] (rNext l))
  else rAtom n l
def rGrp:Nat→Nat→Nat→List Rch→LU→LU→Option (Rch×LU×Nat)
 | 0,_,_,_,_,_=>none
 | f+1,deep,n,acc,op,l=>match rDep f deep n l with
  | none=>none
  | some (k,l1,n1)=>
   if rLook l1=[41]∧acc≠[] then some (.node op (acc++[k]),rNext l1,n1)
   else if rFollows op (acc.length+1) (rLook l1) then rGrp f deep n1 (acc++[k]) (if acc=[] then rLook l1 else op) (rNext l1)
   else none
end
def rParse (l:LU):Option Rch:=match rDep (2*l.length+2) 0 0 l with
 | none=>none
 | some (d,r,_)=>if rLook r=[] then some d else none
def sgR:Nat→LU
 | 1=>[60]
 | 2=>[60,61]
 | 3=>[61]
 | 4=>[62,61]
 | 5=>[62]
 | _=>[]
def rWd (op:LU)(i:Nat):LU:=if 2≤i∧(op=wIf∨op=wUnless) then wElse else op
mutual
def rText:Rch→LU
 | .atom nm op v=>if op=0 then nm else nm++[32]++sgR op++[32]++v
 | .node op ks=>[40]++rTail op 0 ks++[41]
def rTail (op:LU):Nat→List Rch→LU
 | _,[]=>[]
 | i,k::r=>(if i=0 then [] else [32]++rWd op i++[32])++rText k++rTail op (i+1) r
end
def writtenR (l:LU):Bool:=!l.isEmpty&&(match rParse l with | some d=>decide (rText d=l) | none=>false)
end
section
open Go.RowKit
inductive RchM where
 | mk (op nm:BA) (aop:Nat) (ver:BA) (ka:Option Addr) (kc:Nat) (kids:List RchM)
def RchM.op:RchM→BA | .mk op _ _ _ _ _ _=>op
def RchM.nm:RchM→BA | .mk _ nm _ _ _ _ _=>nm
def RchM.aop:RchM→Nat | .mk _ _ a _ _ _ _=>a
def RchM.ver:RchM→BA | .mk _ _ _ v _ _ _=>v
def RchM.ka:RchM→Option Addr | .mk _ _ _ _ a _ _=>a
def RchM.kc:RchM→Nat | .mk _ _ _ _ _ c _=>c
def RchM.kids:RchM→List RchM | .mk _ _ _ _ _ _ k=>k
def RchM.cells (t:RchM):List Value:=[.string t.op,.string t.nm,.int .i64 t.aop,.string t.ver,.slice t.ka t.kids.length t.kc]
def RchM.val (t:RchM):Value:=.agg #[.string t.op,.string t.nm,.int .i64 t.aop,.string t.ver,.slice t.ka t.kids.length t.kc]
theorem rch_len (t:RchM):t.cells.length=5:=rfl
theorem RchM.eta (t:RchM):t=.mk t.op t.nm t.aop t.ver t.ka t.kc t.kids:=by cases t;rfl
mutual
def RchM.pl:RchM→Rch
 | .mk op nm aop ver _ _ kids=>if bl op=[] then .atom (bl nm) aop (bl ver) else .node (bl op) (plL kids)
def plL:List RchM→List Rch
 | []=>[]
 | t::r=>t.pl::plL r
end
theorem plL_map (l:List RchM):plL l=l.map RchM.pl:=by
 induction l with
 | nil=>simp[plL]
 | cons a r ih=>simp[plL,ih]
mutual
def RchM.ht:RchM→Nat
 | .mk _ _ _ _ _ _ kids=>htL kids
def htL:List RchM→Nat
 | []=>0
 | t::r=>max (t.ht+1) (htL r)
end
mutual
def RchM.cnt:RchM→Nat
 | .mk _ _ _ _ _ _ []=>1
 | .mk _ _ _ _ _ _ (t::r)=>t.cnt+cntL r
def cntL:List RchM→Nat
 | []=>0
 | t::r=>t.cnt+cntL r
end
theorem ht_eq (t:RchM):t.ht=htL t.kids:=by cases t;simp[RchM.ht,RchM.kids]
theorem cnt_leaf {t:RchM}(h:t.kids=[]):t.cnt=1:=by cases t;simp only[RchM.kids] at h;subst h;simp[RchM.cnt]
theorem cnt_node {t:RchM}(h:t.kids≠[]):t.cnt=cntL t.kids:=by
 obtain⟨_,_,_,_,_,_,ks⟩:=t
 cases ks with
 | nil=>exact absurd rfl h
 | cons a r=>simp[RchM.cnt,RchM.kids,cntL]
theorem htL_mem {l:List RchM}{t:RchM}(h:t∈l):t.ht+1≤htL l:=by
 induction l with
 | nil=>simp at h
 | cons a r ih=>
  simp only[htL]
  rcases List.mem_cons.1 h with rfl | h
  ·omega
  ·have:=ih h;omega
theorem htL_top {l:List RchM}(h:l≠[]):∃ t∈l,t.ht+1=htL l:=by
 induction l with
 | nil=>exact absurd rfl h
 | cons a r ih=>
  simp only[htL]
  by_cases hr:r=[]
  ·subst hr;exact⟨a,by simp,by simp[htL]⟩
  ·obtain⟨t,ht,he⟩:=ih hr
   by_cases hm:htL r≤a.ht+1
   ·exact⟨a,by simp,by omega⟩
   ·exact⟨t,by simp[ht],by omega⟩
theorem ht_kid {t k:RchM}(h:k∈t.kids):k.ht+1≤t.ht:=by rw[ht_eq t];exact htL_mem h
theorem ht_zero {t:RchM}:t.ht=0↔t.kids=[]:=by
 rw[ht_eq]
 constructor
 ·intro h
  by_cases hk:t.kids=[]
  ·exact hk
  ·obtain⟨k,_,he⟩:=htL_top hk;omega
 ·intro h;rw[h];rfl
theorem cntL_append (a b:List RchM):cntL (a++b)=cntL a+cntL b:=by
 induction a with
 | nil=>simp[cntL]
 | cons x r ih=>simp[cntL,ih];omega
theorem cnt_pos (t:RchM):0<t.cnt:=by
 match t with
 | .mk _ _ _ _ _ _ []=>simp[RchM.cnt]
 | .mk _ _ _ _ _ _ (a::r)=>have:=cnt_pos a;simp[RchM.cnt];omega
theorem cntL_len (l:List RchM):l.length≤cntL l:=by
 induction l with
 | nil=>simp
 | cons a r ih=>have:=cnt_pos a;simp[cntL];omega
theorem cntL_mem {l:List RchM}{t:RchM}(h:t∈l):t.cnt≤cntL l:=by
 induction l with
 | nil=>simp at h
 | cons a r ih=>
  simp only[cntL]
  rcases List.mem_cons.1 h with rfl | h
  ·omega
  ·have:=ih h;omega
theorem cntL_take {l:List RchM}{k:Nat}{t:RchM}(h:l[k]?=some t):cntL (l.take (k+1))=cntL (l.take k)+t.cnt:=by
 obtain⟨hk,hg⟩:=gS h
 rw[tS hk,hg,cntL_append];simp[cntL]
theorem cntL_take_le (l:List RchM)(k:Nat):cntL (l.take k)≤cntL l:=by
 conv=>rhs;rw[←List.take_append_drop k l,cntL_append]
 omega
inductive TOwn (w:World) (lo:Nat) (bad:Option Nat):RchM→Prop
 | mk (t:RchM) (row:w.ownsRow lo 121 5 (.slice t.ka t.kids.length t.kc) t.kids.length (t.kids.flatMap RchM.cells)) (ne:∀ g,(Value.slice t.ka t.kids.length t.kc).ownBlock=some g→some g≠bad) (kids:∀ k∈t.kids,TOwn w lo bad k):TOwn w lo bad t
theorem TOwn.row {w:World}{lo:Nat}{bad:Option Nat}{t:RchM}(h:TOwn w lo bad t):w.ownsRow lo 121 5 (.slice t.ka t.kids.length t.kc) t.kids.length (t.kids.flatMap RchM.cells):=by cases h;assumption
theorem TOwn.kids {w:World}{lo:Nat}{bad:Option Nat}{t:RchM}(h:TOwn w lo bad t):∀ k∈t.kids,TOwn w lo bad k:=by cases h;assumption
theorem TOwn.low {w w':World}{lo:Nat}{bad:Option Nat}{t:RchM}(h:TOwn w lo bad t)(hb:Below w.heap.size w w'):TOwn w' lo bad t:=by
 induction h with
 | mk t row ne _ ih=>exact .mk t (owns_below row hb) ne ih
theorem TOwn.kept {w w':World}{lo g:Nat}{bad:Option Nat}{t:RchM}(h:TOwn w lo bad t)(hlo:g<lo)(hg:w.grownBy w' (some g)):TOwn w' lo bad t:=by
 induction h with
 | mk t row ne _ ih=>exact .mk t (owns_kept row hlo hg) ne ih
theorem TOwn.grown {w w':World}{lo:Nat}{bad:Option Nat}{t:RchM}(h:TOwn w lo bad t)(hg:w.grownBy w' bad):TOwn w' lo bad t:=by
 induction h with
 | mk t row ne _ ih=>
  refine .mk t (row.kept hg ?_) ne ih
  cases hb:(Value.slice t.ka t.kids.length t.kc).ownBlock with
  | none=>exact .inl rfl
  | some g=>exact .inr (ne g hb)
theorem TOwn.base {w:World}{lo lo':Nat}{bad:Option Nat}{t:RchM}(h:TOwn w lo bad t)(hl:lo'≤lo):TOwn w lo' bad t:=by
 induction h with
 | mk t row ne _ ih=>exact .mk t (owns_base row hl) ne ih
theorem TOwn.any {w:World}{lo:Nat}{bad:Option Nat}{t:RchM}(h:TOwn w lo bad t):TOwn w lo none t:=by
 induction h with
 | mk t row _ _ ih=>exact .mk t row (fun g _=>by simp) ih
theorem TOwn.old {w:World}{lo:Nat}{bad bad':Option Nat}{t:RchM}(h:TOwn w lo bad t)(hb:∀ g,bad'=some g→g<lo∨w.heap.size≤g):TOwn w lo bad' t:=by
 induction h with
 | mk t row ne _ ih=>
  refine .mk t row (fun g hg e=>?_) ih
  have h1:=row.lt g hg
  rcases hb g e.symm with h2 | h2<;>omega
inductive TRd (w:World):RchM→Prop
 | mk (t:RchM) (row:Rd w 5 t.ka t.kids.length (t.kids.flatMap RchM.cells)) (kids:∀ k∈t.kids,TRd w k):TRd w t
theorem TRd.row {w:World}{t:RchM}(h:TRd w t):Rd w 5 t.ka t.kids.length (t.kids.flatMap RchM.cells):=by cases h;assumption
theorem TRd.kids {w:World}{t:RchM}(h:TRd w t):∀ k∈t.kids,TRd w k:=by cases h;assumption
theorem TOwn.rd {w:World}{lo:Nat}{bad:Option Nat}{t:RchM}(h:TOwn w lo bad t):TRd w t:=by
 induction h with
 | mk t row _ _ ih=>exact .mk t (owns_rd row) ih
theorem TRd.cell {w:World}{t:RchM}(h:TRd w t)(i:Nat)(k:RchM)(hi:t.kids[i]?=some k):∃ b off,t.ka=some ⟨b,off,none⟩∧∀ (j:Nat)(u:Value),k.cells[j]?=some u→w.cell? ⟨b,off+i*5+j,none⟩=some u:=h.row.elem rch_len i k hi
theorem same_kids {w:World}{t:RchM}(h:TRd w t):∀ u:RchM,TRd w u→t.ka=u.ka→t.kids.length=u.kids.length→t.kids=u.kids:=by
 induction h with
 | mk t row kids ih=>
  intro u hu ha hl
  apply List.ext_getElem hl
  intro i h1 h2
  obtain⟨x,hx⟩:∃ x,t.kids[i]?=some x:=⟨_,gG h1⟩
  obtain⟨y,hy⟩:∃ y,u.kids[i]?=some y:=⟨_,gG h2⟩
  obtain⟨b,off,e1,c1⟩:=row.elem rch_len i x hx
  obtain⟨b',off',e2,c2⟩:=hu.row.elem rch_len i y hy
  rw[ha,e2] at e1
  injection e1 with e1;injection e1 with eb eo _
  subst eb eo
  have f0:=(c1 0 _ rfl).symm.trans (c2 0 _ rfl)
  have f1:=(c1 1 _ rfl).symm.trans (c2 1 _ rfl)
  have f2:=(c1 2 _ rfl).symm.trans (c2 2 _ rfl)
  have f3:=(c1 3 _ rfl).symm.trans (c2 3 _ rfl)
  have f4:=(c1 4 _ rfl).symm.trans (c2 4 _ rfl)
  simp only[Option.some.injEq,Value.string.injEq,Value.int.injEq,Value.slice.injEq,true_and] at f0 f1 f2 f3 f4
  have hk:=ih x (gM hx) y (hu.kids y (gM hy)) f4.1 f4.2.1
  have:x=y:=by rw[RchM.eta x,RchM.eta y,f0,f1,f3,f4.1,f4.2.2,hk,show x.aop=y.aop by omega]
  rw[gG h1] at hx
  rw[gG h2] at hy
  injection hx with hx;injection hy with hy
  rw[hx,hy,this]
end
section
open Go.RowKit Go.Deep
theorem rEnd_at (s:BA)(k o:Nat)(h:k<s.size)(d:UInt8)(hd:s[k]=d):rEnd o ((bl s).drop k)=if d==32 then 0 else if d==40 then rEnd (o+1) ((bl s).drop (k+1))+1 else if d==41 then (if o=0 then 0 else rEnd (o-1) ((bl s).drop (k+1))+1) else rEnd o ((bl s).drop (k+1))+1:=by
 rw[drop_cons s k h,hd];rfl
theorem rEnd_none (s:BA)(k o:Nat)(h:¬ k<s.size):rEnd o ((bl s).drop k)=0:=by rw[drop_end s k h];rfl
theorem rdep_partEnd (s:BA)(p:Nat)(w:World)(hp:p≤s.size)(hs:s.size≤4294967280):
  Calls Tryz.prog 180 #[.string s,.int .i64 p] w fun e w'=>e=.returned (.int .i64 ((p+rEnd 0 ((bl s).drop p):Nat):Int))∧w=w':=by
 obtain⟨R,hR⟩:∃ R,p+rEnd 0 ((bl s).drop p)=R:=⟨_,rfl⟩
 rw[hR]
 have HR0:=hid hR
 clear hR
 go_enter Tryz.func180,Tryz.ntmps180
 go_wp2_with fail
 go_loop [1,4,5] (fun i s4 o=>∃ k n:Nat,i=.int .i64 k∧s4=.int .i64 0∧o=.int .i64 n∧k≤s.size∧n≤k∧Hid (k+rEnd n ((bl s).drop k)=R)) (fun i _ _=>s.size-(intOf i).toNat)
 case atStart=>exact⟨p,0,rfl,rfl,rfl,hp,z0,HR0⟩
 case round=>
  clear HR0
  obtain⟨k,n,rfl,rfl,rfl,hk,hn,HE⟩:=hrel
  by_cases hlt:k<s.size
  ·obtain⟨d,hd⟩:∃ d:UInt8,s[k]=d:=⟨_,rfl⟩
   have ST:=hid (rEnd_at s k n hlt d hd)
   have d0:decide ((k:Int)<(s.size:Int))=true:=dT (by omega)
   cases h32:(d==32) with
   | true=>
    have e32:((d.toNat:Int) != 32)=false:=by rw[bne,show((d.toNat:Int)==32)=true from(toNat_beq d 32).trans h32];rfl
    have E:Hid (k=R):=by have h1:=HE.out;rw[ST.out,h32] at h1;exact h1
    clear h32
    go_wp2_with fail
    go_ret
    exact⟨ret_int (by rw[←E.out]),rfl⟩
   | false=>
    have e32:((d.toNat:Int) != 32)=true:=by rw[bne,show((d.toNat:Int)==32)=false from(toNat_beq d 32).trans h32];rfl
    cases h40:(d==40) with
    | true=>
     have e40:((d.toNat:Int)==40)=true:=(toNat_beq d 40).trans h40
     have HN:Hid ((k+1)+rEnd (n+1) ((bl s).drop (k+1))=R):=by have h1:=HE.out;rw[ST.out,h32,h40] at h1;simp at h1;show _=_;omega
     clear h32 h40
     go_wp2_with fail
     go_round
     case rel=>exact⟨k+1,n+1,by go_num,rfl,by go_num,by omega,by omega,HN⟩
     case measure=>simp[intOf];omega
    | false=>
     have e40:((d.toNat:Int)==40)=false:=(toNat_beq d 40).trans h40
     cases h41:(d==41) with
     | true=>
      have e41:((d.toNat:Int)==41)=true:=(toNat_beq d 41).trans h41
      by_cases n0:n=0
      ·have E:Hid (k=R):=by have h1:=HE.out;rw[ST.out,h32,h40,h41,if_neg (by decide),if_neg (by decide),if_pos rfl,if_pos n0] at h1;exact h1
       subst n0
       clear h32 h40 h41
       go_wp2_with fail
       go_ret
       exact⟨ret_int (by rw[←E.out]),rfl⟩
      ·have HN:Hid ((k+1)+rEnd (n-1) ((bl s).drop (k+1))=R):=by have h1:=HE.out;rw[ST.out,h32,h40,h41,if_neg (by decide),if_neg (by decide),if_pos rfl,if_neg n0] at h1;show _=_;omega
       have en:((n:Int)==0)=false:=by simp;omega
       clear h32 h40 h41
       go_wp2_with fail
       go_round
       case rel=>exact⟨k+1,n-1,by go_num,rfl,by congr 1;omega,by omega,by omega,HN⟩
       case measure=>simp[intOf];omega
     | false=>
      have e41:((d.toNat:Int)==41)=false:=(toNat_beq d 41).trans h41
      have HN:Hid ((k+1)+rEnd n ((bl s).drop (k+1))=R):=by have h1:=HE.out;rw[ST.out,h32,h40,h41,if_neg (by decide),if_neg (by decide),if_neg (by decide)] at h1;show _=_;omega
      clear h32 h40 h41
      go_wp2_with fail
      go_round
      case rel=>exact⟨k+1,n,by go_num,rfl,rfl,by omega,by omega,HN⟩
      case measure=>simp[intOf];omega
  ·have d0:decide ((k:Int)<(s.size:Int))=false:=dF (by omega)
   have E:Hid (k=R):=by have h1:=HE.out;rw[rEnd_none s k n hlt] at h1;exact h1
   go_wp2_with fail
   go_ret
   exact⟨ret_int (by rw[←E.out]),rfl⟩
def rToks:Nat→LU→List (LU)
 | 0,_=>[[]]
 | f+1,l=>if skipL l=[] then [[]] else rLook l::rToks f (rNext l)
theorem skip_blank (r:LU):skipL (32::r)=skipL r:=by unfold skipL;rw[runN_cons_yes (by rfl)];rfl
theorem skip_ink {c:UInt8}{r:LU}(h:(c==32)=false):skipL (c::r)=c::r:=by
 unfold skipL;rw[runN_cons_no (show blankB c=false from h)];rfl
theorem rToks_blank (f:Nat)(r:LU):rToks f (32::r)=rToks f r:=by
 cases f with
 | zero=>rfl
 | succ f=>unfold rToks rLook rNext;rw[skip_blank]
theorem rToks_end (f:Nat):rToks (f+1) []=[[]]:=rfl
theorem rToks_at (f:Nat)(s:BA)(k:Nat)(h:k<s.size)(d:UInt8)(hd:s[k]=d)(h32:(d==32)=false):rToks (f+1) ((bl s).drop k)=((bl s).drop k).take (rLen ((bl s).drop k))::rToks f ((bl s).drop (k+rLen ((bl s).drop k))):=by
 have hs:skipL ((bl s).drop k)=(bl s).drop k:=by rw[drop_cons s k h,hd];exact skip_ink h32
 show(if skipL ((bl s).drop k)=[] then [[]] else rLook ((bl s).drop k)::rToks f (rNext ((bl s).drop k)))=_
 rw[if_neg (by rw[hs,drop_cons s k h];simp)]
 unfold rLook rNext
 rw[hs,List.drop_drop]
theorem rLen_at (s:BA)(k:Nat)(h:k<s.size)(d:UInt8)(hd:s[k]=d):rLen ((bl s).drop k)=if brB d then 1 else rEnd 0 ((bl s).drop k):=by
 rw[drop_cons s k h,hd];rfl
theorem rLen_room (s:BA)(k:Nat)(h:k<s.size)(d:UInt8)(hd:s[k]=d)(h32:(d==32)=false):0<rLen ((bl s).drop k)∧k+rLen ((bl s).drop k)≤s.size:=by
 have hs:skipL ((bl s).drop k)=(bl s).drop k:=by rw[drop_cons s k h,hd];exact skip_ink h32
 have h1:=rLen_pos (l:=(bl s).drop k) (by rw[hs,drop_cons s k h];simp)
 rw[hs] at h1
 have h2:=rLen_le ((bl s).drop k)
 rw[List.length_drop,bl_length] at h2
 exact⟨h1,by omega⟩
structure PtM where
 text:BA
 at_:Nat
def PtM.cells (x:PtM):List Value:=[.string x.text,.int .i64 x.at_]
theorem ptm_len (x:PtM):x.cells.length=2:=rfl
theorem info_part:(Tryz.prog.info? 167).map (fun i=>(i.zero,i.size,i.bytes))=some (some (.agg #[.string ⟨#[]⟩,.int .i64 0]),2,24):=by kernel_rfl
structure PtRow (w wr:World) (xs:List PtM) (A:Option Addr) (n c:Nat):Prop where
 len:xs.length=n
 row:wr.ownsRow w.heap.size 167 2 (.slice A n c) n (xs.flatMap PtM.cells)
 bel:Below w.heap.size w wr
theorem PtRow.grow {w wr w2:World}{xs:List PtM}{A A1:Option Addr}{n c c1:Nat}{o:Obj}{x:PtM}(h:PtRow w wr xs A n c)
  (hr:w2.ownsRow w.heap.size 167 2 (.slice A1 (n+1) c1) (n+1) (xs.flatMap PtM.cells++x.cells))
  (hg:(wr.alloc o).grownBy w2 (Value.slice A n c).ownBlock):PtRow w w2 (xs++[x]) A1 (n+1) c1:=by
 refine⟨by simp[h.len],by rw[List.flatMap_append];simpa using hr,?_⟩
 exact(h.bel.alloc h.bel.size o).grown hg (by have:=h.bel.size;simp;omega) (fun j hj=>by have:=(h.row.lt j hj).1;omega)
theorem reads_pt (w:World)(t:TypeId)(x y:Value):Reads (w.alloc (.cells #[x,y] t)) (w.heap.size+1) 2 (some ⟨w.heap.size,0,none⟩) 1 [x,y]:=by
 refine⟨rfl,fun _=>⟨_,rfl,by simp,fun j u hu=>?_⟩⟩
 match j,hu with
 | 0,hu=>simp at hu;subst hu;simp[Addr.add]
 | 1,hu=>simp at hu;subst hu;simp[Addr.add]
 | j+2,hu=>simp at hu
def PtsPost (s:BA)(w:World)(e:Ending)(w':World):Prop:=
 ∃ (A:Option Addr) (n c:Nat) (xs:List PtM),e=.returned (.slice A n c)∧PtRow w w' xs A n c∧n≤s.size+1∧xs.map (fun x=>bl x.text)=rToks (s.size+1) (bl s)∧∀ x∈xs,x.text.size≤s.size
theorem rdep_parts (s:BA)(w:World)(hs:s.size≤4294967280):
  Calls Tryz.prog 127 #[.string s] w (PtsPost s w):=by
 obtain⟨i0,hi0,hz0,hz1,hz2⟩:=info_parts info_part
 go_enter Tryz.func127,Tryz.ntmps127
 go_wp2_with fail
 go_loopw [3,4] (fun l i wr=>∃ (k f n c:Nat) (A:Option Addr) (xs:List PtM),l=.slice A n c∧i=.int .i64 k∧k≤s.size∧n≤k∧Hid (PtRow w wr xs A n c)∧Hid (xs.map (fun x=>bl x.text)++rToks (f+1) ((bl s).drop k)=rToks (s.size+1) (bl s))∧Hid (s.size-k≤f)∧Hid (∀ x∈xs,x.text.size≤s.size)) (fun _ i _=>s.size-(intOf i).toNat)
 case atStart=>exact⟨0,s.size,0,0,none,[],rfl,rfl,z0,lr,⟨rfl,World.ownsRow_nil _ _ _ _,bR⟩,rfl,lr,by simp[Hid]⟩
 case round=>
  obtain⟨k,f,n,c,A,xs,rfl,rfl,hk,hn,HR,HT,HF,HZ⟩:=hrel
  by_cases hlt:k<s.size
  ·obtain⟨d,hd⟩:∃ d:UInt8,s[k]=d:=⟨_,rfl⟩
   cases h32:(d==32) with
   | true=>
    have e32:((d.toNat:Int)==32)=true:=(toNat_beq d 32).trans h32
    have HT2:Hid (xs.map (fun x=>bl x.text)++rToks (f+1) ((bl s).drop (k+1))=rToks (s.size+1) (bl s)):=by
     have h1:=HT.out;rw[drop_cons s k hlt,hd,show d=32 by simpa using h32,rToks_blank] at h1;exact h1
    have HF2:Hid (s.size-(k+1)≤f):=by have:=HF.out;show _≤_;omega
    clear h32
    go_wp2_with fail
    go_roundw
    case rel=>exact⟨k+1,f,n,c,A,xs,rfl,by go_num,by omega,by omega,HR,HT2,HF2,HZ⟩
    case measure=>simp[intOf];omega
   | false=>
    have e32:((d.toNat:Int)==32)=false:=(toNat_beq d 32).trans h32
    obtain⟨hl1,hl2⟩:=rLen_room s k hlt d hd h32
    have TA:=hid (rToks_at (f-1) s k hlt d hd h32)
    have TB:=hid (rToks_at f s k hlt d hd h32)
    have LA:=hid (rLen_at s k hlt d hd)
    obtain⟨m,hm⟩:∃ m,k+rLen ((bl s).drop k)=m:=⟨_,rfl⟩
    have HM:=hid hm
    rw[hm] at TA TB hl2
    have hkm:k<m:=by omega
    clear hm hl1
    obtain⟨b1,hb1⟩:∃ b1,((d.toNat:Int) != 40)=b1:=⟨_,rfl⟩
    obtain⟨b2,hb2⟩:∃ b2,((d.toNat:Int) != 41)=b2:=⟨_,rfl⟩
    have HBR:Hid (brB d=!(b1&&b2)):=by
     show _=_;rw[←hb1,←hb2,bne,bne,show((d.toNat:Int)==40)=(d==40) from toNat_beq d 40,show((d.toNat:Int)==41)=(d==41) from toNat_beq d 41];unfold brB;simp
    obtain⟨bp,hbp⟩:∃ bp,(b1&&b2)=bp:=⟨_,rfl⟩
    have HBP:=hid hbp
    clear hbp
    go_upto_region 7 with(fail)
    go_cut [27] (fun v wx=>v=.bool bp∧wr=wx)
    case first=>
     cases b1 with
     | false=>
      have E:Hid (bp=false):=HBP.out.symm
      go_wp2_with fail
      go_meet
      exact⟨by rw[E.out],rfl⟩
     | true=>
      have E:Hid (bp=b2):=HBP.out.symm
      go_wp2_with fail
      go_meet
      exact⟨by rw[E.out],rfl⟩
    case rest=>
    obtain⟨rfl,rfl⟩:=hcut
    clear hb1 hb2
    go_upto_if 27 with(fail)
    go_cut [5] (fun v wx=>v=.int .i64 m∧wr=wx)
    case first=>
     have hPE:=rdep_partEnd s k wr (by omega) hs
     cases bp with
     | false=>
      have E:Hid (m=k+1):=by have h1:=HM.out;rw[LA.out,HBR.out,HBP.out] at h1;exact h1.symm
      go_wp2_with fail
      go_meet
      exact⟨by rw[E.out];rfl,rfl⟩
     | true=>
      have E:k+rEnd 0 ((bl s).drop k)=m:=by have h1:=HM.out;rw[LA.out,HBR.out,HBP.out] at h1;exact h1
      rw[E] at hPE
      clear E
      go_wp2_with fail
      refine hPE.mono ?_;rintro e w' ⟨rfl,rfl⟩
      go_wp2_with fail
      go_meet
      exact⟨rfl,rfl⟩
    case rest=>
    obtain⟨rfl,rfl⟩:=hcut
    clear HBR LA h32
    obtain⟨Y,hY⟩:∃ Y,s.extract k m=Y:=⟨_,rfl⟩
    have HYB:Hid (bl Y=((bl s).drop k).take (rLen ((bl s).drop k))):=by show _=_;rw[←hY,bl_extract];congr 1;have:=HM.out;omega
    have HYZ:Hid (Y.size≤s.size):=by show _≤_;rw[←bl_length,HYB.out,List.length_take,List.length_drop,bl_length];omega
    have HT2:Hid ((xs++[(⟨Y,k⟩:PtM)]).map (fun x=>bl x.text)++rToks (f-1+1) ((bl s).drop m)=rToks (s.size+1) (bl s)):=by
     have h1:=HT.out;have hf:=HF.out
     have ef:f-1+1=f:=by omega
     have h2:=TA.out
     rw[ef] at h2
     have h3:rToks (f+1) ((bl s).drop k)=((bl s).drop k).take (rLen ((bl s).drop k))::rToks f ((bl s).drop m):=TB.out
     show _=_
     rw[ef,←h1,h3,List.map_append,List.append_assoc];simp[HYB.out]
    have HF2:Hid (s.size-m≤f-1):=by have:=HF.out;show _≤_;omega
    have HZ2:Hid (∀ x∈xs++[(⟨Y,k⟩:PtM)],x.text.size≤s.size):=by
     intro x hx
     rcases List.mem_append.1 hx with hx | hx
     ·exact HZ.out x hx
     ·obtain rfl:=List.mem_singleton.1 hx;exact HYZ.out
    have hnn:n≤4294967280:=by omega
    have hkm1:(k:Int)≤(m:Int):=by omega
    have hkm2:(m:Int)≤(s.size:Int):=by omega
    go_wp2_with (at_builtin;refine wpList_append_any _ rfl _ _ _ rfl w.heap.size 167 i0 _ 2 24 Tryz.underlying161 hi0 hz0 hz1 hz2 rfl (by omega) (.slice A n c) n _ rfl (HR.out.row.alloc _) (wr.heap.size+1) (some ⟨wr.heap.size,0,none⟩) 1 1 [.string Y,.int .i64 k] rfl (reads_pt wr _ _ _) (by simp[Value.oneCell']) (by simp only[maxLen];omega) (by omega) (by simp;have:=HR.out.bel.size;omega) ?_;intro v1 w3 o1 g1 a1)
    obtain⟨A3,c3,rfl⟩:=owns_form o1
    have R3:=hid (HR.out.grow (x:=⟨Y,k⟩) o1 g1)
    clear o1 g1 a1
    go_wp2_with fail
    go_roundw
    case rel=>exact⟨m,f-1,n+1,c3,A3,xs++[⟨Y,k⟩],rfl,rfl,hl2,by omega,R3,HT2,HF2,HZ2⟩
    case measure=>simp[intOf];omega
  ·have HT2:Hid ((xs++[(⟨⟨#[]⟩,s.size⟩:PtM)]).map (fun x=>bl x.text)=rToks (s.size+1) (bl s)):=by
    have h1:=HT.out;rw[drop_end s k hlt,rToks_end] at h1;show _=_;rw[←h1,List.map_append];rfl
   have HZ2:Hid (∀ x∈xs++[(⟨⟨#[]⟩,s.size⟩:PtM)],x.text.size≤s.size):=by
    intro x hx
    rcases List.mem_append.1 hx with hx | hx
    ·exact HZ.out x hx
    ·obtain rfl:=List.mem_singleton.1 hx;exact z0
   have hnn:n≤4294967280:=by omega
   go_wp2_with (at_builtin;refine wpList_append_any _ rfl _ _ _ rfl w.heap.size 167 i0 _ 2 24 Tryz.underlying161 hi0 hz0 hz1 hz2 rfl (by omega) (.slice A n c) n _ rfl (HR.out.row.alloc _) (wr.heap.size+1) (some ⟨wr.heap.size,0,none⟩) 1 1 [.string ⟨#[]⟩,.int .i64 s.size] rfl (reads_pt wr _ _ _) (by simp[Value.oneCell']) (by simp only[maxLen];omega) (by omega) (by simp;have:=HR.out.bel.size;omega) ?_;intro v1 w3 o1 g1 a1)
   obtain⟨A3,c3,rfl⟩:=owns_form o1
   have R3:=hid (HR.out.grow (x:=⟨⟨#[]⟩,s.size⟩) o1 g1)
   clear o1 g1 a1
   go_wp2_with fail
   go_ret
   exact⟨A3,n+1,c3,xs++[⟨⟨#[]⟩,s.size⟩],rfl,R3.out,by omega,HT2.out,HZ2.out⟩
end
section
open Go.RowKit
def rCloses (op:LU)(n:Nat):Bool:=decide ((op=wAnd∨op=wOr)∧2≤n∨(op=wIf∨op=wUnless)∧(n=2∨n=3)∨(op=wWith∨op=wWithout)∧n=2)
def GOp (n:Nat)(op:LU):Prop:=(n=0∧op=[])∨(1≤n∧((op=wAnd∨op=wOr)∨(op=wIf∨op=wUnless)∧n≤2∨(op=wWith∨op=wWithout)∧n=1))
theorem GOp.start:GOp 0 []:=.inl ⟨rfl,rfl⟩
theorem rWordB_iff {p:LU}:rWordB p=true↔p=wAnd∨p=wOr∨p=wIf∨p=wUnless∨p=wWith∨p=wWithout:=by unfold rWordB;simp
theorem GOp.close {n:Nat}{op:LU}(h:GOp n op):rCloses op (n+1)=decide (n≠0):=by
 unfold rCloses
 rcases h with⟨rfl,rfl⟩ | ⟨h1,h2⟩
 ·simp[wAnd,wOr,wIf,wUnless,wWith,wWithout]
 ·rw[dT (show n≠0 by omega)]
  apply dT
  rcases h2 with h2 | ⟨h2,h3⟩ | ⟨h2,h3⟩
  ·exact .inl ⟨h2,by omega⟩
  ·exact .inr (.inl ⟨h2,by omega⟩)
  ·exact .inr (.inr ⟨h2,by omega⟩)
theorem GOp.next {n:Nat}{op p:LU}(h:GOp n op)(hf:rFollows op (n+1) p=true):GOp (n+1) (if n=0 then p else op):=by
 unfold rFollows at hf
 rcases h with⟨rfl,rfl⟩ | ⟨h1,h2⟩
 ·rw[if_pos rfl] at hf
  rw[if_pos rfl]
  refine .inr ⟨by omega,?_⟩
  rcases rWordB_iff.1 hf with h | h | h | h | h | h
  ·exact .inl (.inl h)
  ·exact .inl (.inr h)
  ·exact .inr (.inl ⟨.inl h,by omega⟩)
  ·exact .inr (.inl ⟨.inr h,by omega⟩)
  ·exact .inr (.inr ⟨.inl h,rfl⟩)
  ·exact .inr (.inr ⟨.inr h,rfl⟩)
 ·rw[if_neg (by omega)] at hf
  rw[if_neg (by omega)]
  refine .inr ⟨by omega,?_⟩
  rcases dO hf with⟨h,_⟩ | ⟨h,h3,_⟩
  ·exact .inl h
  ·exact .inr (.inl ⟨h,by omega⟩)
theorem GOp.word {n:Nat}{op:LU}(h:GOp n op)(hn:n≠0):rWordB op=true:=by
 rcases h with⟨rfl,rfl⟩ | ⟨_,h2⟩
 ·exact absurd rfl hn
 ·rw[rWordB_iff]
  rcases h2 with(h2 | h2) | ⟨h2 | h2,_⟩ | ⟨h2 | h2,_⟩
  ·exact .inl h2
  ·exact .inr (.inl h2)
  ·exact .inr (.inr (.inl h2))
  ·exact .inr (.inr (.inr (.inl h2)))
  ·exact .inr (.inr (.inr (.inr (.inl h2))))
  ·exact .inr (.inr (.inr (.inr (.inr h2))))
theorem GOp.nil {n:Nat}{op:LU}(h:GOp n op):op=[]↔n=0:=by
 constructor
 ·intro e;subst e
  by_cases hn:n=0
  ·exact hn
  ·have:=h.word hn;rw[rWordB_iff] at this;revert this;simp[wAnd,wOr,wIf,wUnless,wWith,wWithout]
 ·rintro rfl
  rcases h with⟨_,h⟩ | ⟨h,_⟩
  ·exact h
  ·omega
theorem closes_two {op:LU}{n:Nat}(h:rCloses op n=true):2≤n:=by
 rcases dO h with⟨_,h⟩ | ⟨_,h⟩ | ⟨_,h⟩<;>omega
theorem word_ne {op:LU}(h:rWordB op=true):op≠[]∧op.length≤7:=by
 rcases rWordB_iff.1 h with h | h | h | h | h | h<;>rw[h]<;>simp[wAnd,wOr,wIf,wUnless,wWith,wWithout]
inductive TGood:RchM→Prop
 | atom (nm:BA) (aop:Nat) (ver:BA) (hn:rnameB (bl nm)=true) (ho:aop≤5) (hv0:aop=0→ver.size=0) (hv:0<aop→verE 2 ver=0):TGood (.mk ⟨#[]⟩ nm aop ver none 0 [])
 | node (op:BA) (ka:Option Addr) (kc:Nat) (kids:List RchM) (ho:rWordB (bl op)=true) (hc:rCloses (bl op) kids.length=true) (hk:∀ k∈kids,TGood k):TGood (.mk op ⟨#[]⟩ 0 ⟨#[]⟩ ka kc kids)
theorem ver_size {s:BA}{f:Int}(h:verE f s=0):s.size≤64:=by
 unfold verE at h
 split at h
 ·simp at h
 ·split at h
  ·simp at h
  ·omega
theorem rname_len {s:BA}(h:rnameB (bl s)=true):1≤s.size∧s.size≤64:=by
 by_cases hz:1≤s.size∧s.size≤64
 ·exact hz
 ·rw[rname_size s hz] at h;cases h
theorem sgR_len:∀ n:Nat,(sgR n).length≤2
 | 0=>by decide
 | 1=>by decide
 | 2=>by decide
 | 3=>by decide
 | 4=>by decide
 | 5=>by decide
 | _+6=>by simp[sgR]
theorem rWd_len {op:LU}{i:Nat}(h:op.length≤7):(rWd op i).length≤7:=by
 unfold rWd
 split
 ·decide
 ·exact h
theorem rTail_len (op:LU)(ho:op.length≤7):∀ (ks:List RchM)(i:Nat),(∀ k∈ks,(rText k.pl).length+60≤200*k.cnt)→(rTail op i (plL ks)).length+51*ks.length≤200*cntL ks
 | [],i,_=>by simp[plL,rTail,cntL]
 | k::r,i,h=>by
  have h1:=h k (by simp)
  have h2:=rTail_len op ho r (i+1) (fun x hx=>h x (by simp[hx]))
  have h3:=rWd_len (i:=i) ho
  simp only[plL,rTail,cntL,List.length_append,List.length_cons]
  split
  ·simp;omega
  ·simp;omega
theorem pl_atom (op nm:BA)(aop:Nat)(ver:BA)(ka:Option Addr)(kc:Nat)(kids:List RchM)(h:bl op=[]):(RchM.mk op nm aop ver ka kc kids).pl=.atom (bl nm) aop (bl ver):=by simp[RchM.pl,h]
theorem pl_node (op nm:BA)(aop:Nat)(ver:BA)(ka:Option Addr)(kc:Nat)(kids:List RchM)(h:bl op≠[]):(RchM.mk op nm aop ver ka kc kids).pl=.node (bl op) (plL kids):=by simp[RchM.pl,h]
theorem TGood.text {t:RchM}(h:TGood t):(rText t.pl).length+60≤200*t.cnt:=by
 induction h with
 | atom nm aop ver hn ho hv0 hv=>
  rw[pl_atom _ _ _ _ _ _ _ rfl]
  have h1:=rname_len hn
  have h2:ver.size≤64:=by
   by_cases h:aop=0
   ·have:=hv0 h;omega
   ·exact ver_size (hv (by omega))
  have h3:=sgR_len aop
  simp only[rText,RchM.cnt]
  split
  ·rw[bl_length];omega
  ·simp[bl_length];omega
 | node op ka kc kids ho hc hk ih=>
  rw[pl_node _ _ _ _ _ _ _ (word_ne ho).1]
  have h1:=rTail_len (bl op) (word_ne ho).2 kids 0 ih
  have h2:=closes_two hc
  rw[cnt_node (t:=.mk op ⟨#[]⟩ 0 ⟨#[]⟩ ka kc kids) (by simp[RchM.kids];intro h;rw[h] at h2;simp at h2)]
  simp only[rText,RchM.kids,List.length_append,List.length_cons,List.length_nil]
  omega
def zeroR:RchM:=.mk ⟨#[]⟩ ⟨#[]⟩ 0 ⟨#[]⟩ none 0 []
theorem rNext_le (l:LU):(rNext l).length≤l.length:=by
 have:=skipL_le l;unfold rNext;rw[List.length_drop];omega
theorem rLook_next {l:LU}(h:rLook l≠[]):(rNext l).length<l.length:=rNext_lt (fun e=>h (rLook_nil.2 e))
theorem rToks_cons (f:Nat)(l:LU):∃ r,rToks (f+1) l=rLook l::r∧(rLook l≠[]→r=rToks f (rNext l)):=by
 by_cases h:skipL l=[]
 ·refine⟨[],?_,fun h2=>absurd (rLook_nil.2 h) h2⟩
  show(if skipL l=[] then [[]] else rLook l::rToks f (rNext l))=_
  rw[if_pos h,rLook_nil.2 h]
 ·refine⟨rToks f (rNext l),?_,fun _=>rfl⟩
  show(if skipL l=[] then [[]] else rLook l::rToks f (rNext l))=_
  rw[if_neg h]
end
section
open Go.RowKit Go.Deep
structure RX (w:World) (a:Nat) (s:BA) (p n:Nat) (c:Int):Prop where
 blk:∃ (f:BA) (x:Int),Blk w a [.string s,.int .i64 p,.string f,.int .i64 x,.int .i64 c,.int .i64 n]
 le:p≤s.size
theorem RX.grown {w w':World}{a:Nat}{row:Option Nat}{s:BA}{p n:Nat}{c:Int}(h:RX w a s p n c)(hg:w.grownBy w' row)(hne:some a≠row):RX w' a s p n c:=by
 obtain⟨f,x,k⟩:=h.blk;exact⟨⟨f,x,k.grownBy hg hne⟩,h.le⟩
theorem RX.below {w w':World}{a:Nat}{s:BA}{p n:Nat}{c:Int}(h:RX w a s p n c)(hb:Below w.heap.size w w'):RX w' a s p n c:=h.grown (below_grows hb none) (by simp)
theorem RX.alloc {w:World}{a:Nat}{s:BA}{p n:Nat}{c:Int}(h:RX w a s p n c)(o:Obj):RX (w.alloc o) a s p n c:=h.below (bR.alloc lr o)
theorem RX.drewN {w:World}{a:Nat}{s:BA}{p n:Nat}{c:Int}(h:RX w a s p n c)(k:Nat):RX (w.drewN k) a s p n c:=h.below ⟨rfl,rfl,rfl,lr,fun _ _=>rfl⟩
theorem RX.sz {w:World}{a:Nat}{s:BA}{p n:Nat}{c:Int}(h:RX w a s p n c):a<w.heap.size:=by obtain⟨f,x,k⟩:=h.blk;exact k.sz
theorem RX.move {w:World}{a:Nat}{s:BA}{p n q:Nat}{c:Int}(h:RX w a s p n c)(h2:q≤s.size):RX (w.setCell ⟨a,1,none⟩ (.int .i64 q)) a s q n c:=by
 obtain⟨f,x,k⟩:=h.blk;exact⟨⟨f,x,k.set 1 (by simp) _⟩,h2⟩
theorem RX.count {w:World}{a:Nat}{s:BA}{p n:Nat}{c:Int}(h:RX w a s p n c)(m:Nat):RX (w.setCell ⟨a,5,none⟩ (.int .i64 m)) a s p m c:=by
 obtain⟨f,x,k⟩:=h.blk;exact⟨⟨f,x,k.set 5 (by simp) _⟩,h.le⟩
theorem RX.noted {w:World}{a:Nat}{s:BA}{p n:Nat}{c:Int}(h:RX w a s p n c)(f:BA)(x e:Int):RX (((w.setCell ⟨a,2,none⟩ (.string f)).setCell ⟨a,3,none⟩ (.int .i64 x)).setCell ⟨a,4,none⟩ (.int .i64 e)) a s p n e:=by
 obtain⟨f',x',k⟩:=h.blk;exact⟨⟨f,x,((k.set 2 (by simp) _).set 3 (by simp) _).set 4 (by simp) _⟩,h.le⟩
structure RXc (w:World) (a:Nat) (s:BA) (p n:Nat) (f:BA) (x c:Int):Prop where
 c0:w.cell? ⟨a,0,none⟩=some (.string s)
 c1:w.cell? ⟨a,1,none⟩=some (.int .i64 p)
 c2:w.cell? ⟨a,2,none⟩=some (.string f)
 c3:w.cell? ⟨a,3,none⟩=some (.int .i64 x)
 c4:w.cell? ⟨a,4,none⟩=some (.int .i64 c)
 c5:w.cell? ⟨a,5,none⟩=some (.int .i64 n)
 f1:w.frozen? ⟨a,1,none⟩=false
 f2:w.frozen? ⟨a,2,none⟩=false
 f3:w.frozen? ⟨a,3,none⟩=false
 f4:w.frozen? ⟨a,4,none⟩=false
 f5:w.frozen? ⟨a,5,none⟩=false
theorem RX.cells {w:World}{a:Nat}{s:BA}{p n:Nat}{c:Int}(h:RX w a s p n c):∃ f x,RXc w a s p n f x c:=by
 obtain⟨f,x,k⟩:=h.blk
 exact⟨f,x,k.cell 0 _ rfl,k.cell 1 _ rfl,k.cell 2 _ rfl,k.cell 3 _ rfl,k.cell 4 _ rfl,k.cell 5 _ rfl,k.free 1 (by simp),k.free 2 (by simp),k.free 3 (by simp),k.free 4 (by simp),k.free 5 (by simp)⟩
theorem RX.at_ {w:World}{a:Nat}{s:BA}{p n:Nat}{c:Int}(h:RX w a s p n c):atOf a w=p:=by
 obtain⟨f,x,k⟩:=h.cells;unfold atOf;rw[k.c1];simp
theorem idx6 (k:Nat)(hk:k<6)(x:Nat→BA)(w:World):(Instr.index 208 (.agg #[.string (x 0),.string (x 1),.string (x 2),.string (x 3),.string (x 4),.string (x 5)]) (.int .i64 k)).run Tryz.prog w=.ok (.string (x k)) w:=by
 rcases(by omega:k=0∨k=1∨k=2∨k=3∨k=4∨k=5) with rfl | rfl | rfl | rfl | rfl | rfl<;>kernel_rfl
def sgUp (x:Nat→BA)(l:LU):Nat→Prop:=fun k=>∀ j,j<k→bl (x j)≠l
theorem rSign_at (k:Nat)(hk:k<6):bl (rSign k)=sgR k:=by
 rcases(by omega:k=0∨k=1∨k=2∨k=3∨k=4∨k=5) with rfl | rfl | rfl | rfl | rfl | rfl<;>rfl
theorem rOp_found {l:LU}{k:Nat}(hk:k<6)(h:bl (rSign k)=l):rOp l=k:=by
 subst h
 rcases(by omega:k=0∨k=1∨k=2∨k=3∨k=4∨k=5) with rfl | rfl | rfl | rfl | rfl | rfl<;>rfl
theorem rOp_none {l:LU}(h:sgUp rSign l 6):rOp l=0:=by
 have h1:=h 1 (by omega);have h2:=h 2 (by omega);have h3:=h 3 (by omega);have h4:=h 4 (by omega);have h5:=h 5 (by omega)
 rw[rSign_at _ (by omega)] at h1 h2 h3 h4 h5
 unfold rOp
 rw[if_neg (fun e=>h1 e.symm),if_neg (fun e=>h2 e.symm),if_neg (fun e=>h3 e.symm),if_neg (fun e=>h4 e.symm),if_neg (fun e=>h5 e.symm)]
theorem sgUp_step {x:Nat→BA}{l:LU}{k:Nat}(h:sgUp x l k)(hn:bl (x k)≠l):sgUp x l (k+1):=by
 intro j hj
 rcases(by omega:j<k∨j=k) with h1 | rfl
 ·exact h j h1
 ·exact hn
theorem rWord_found {l:LU}{k:Nat}(hk:k<6)(h:bl (rWord k)=l):rWordB l=true:=by
 subst h
 rcases(by omega:k=0∨k=1∨k=2∨k=3∨k=4∨k=5) with rfl | rfl | rfl | rfl | rfl | rfl<;>rfl
theorem rWord_none {l:LU}(h:sgUp rWord l 6):rWordB l=false:=by
 have h0:=h 0 (by omega);have h1:=h 1 (by omega);have h2:=h 2 (by omega);have h3:=h 3 (by omega);have h4:=h 4 (by omega);have h5:=h 5 (by omega)
 apply dF
 rintro(e | e | e | e | e | e)
 ·exact h0 e.symm
 ·exact h1 e.symm
 ·exact h2 e.symm
 ·exact h3 e.symm
 ·exact h4 e.symm
 ·exact h5 e.symm
theorem rdep_relation (s:BA)(w:World)(hG:Gl w):
  Calls Tryz.prog 234 #[.string s] w fun e w'=>e=.returned (.int .i64 (rOp (bl s)))∧w=w':=by
 have g0:=hG.rsg 0 (by omega)
 have g1:=hG.rsg 1 (by omega)
 have g2:=hG.rsg 2 (by omega)
 have g3:=hG.rsg 3 (by omega)
 have g4:=hG.rsg 4 (by omega)
 have g5:=hG.rsg 5 (by omega)
 clear hG
 go_enter Tryz.func234,Tryz.ntmps234
 go_wp2_with fail
 clear g0 g1 g2 g3 g4 g5
 go_loop [6] (fun i=>∃ k:Nat,k≤6∧i=.int .i64 k∧Hid (sgUp rSign (bl s) k)) (fun i=>6-(intOf i).toNat)
 case atStart=>exact⟨0,by omega,rfl,fun j hj=>by omega⟩
 case round=>
  obtain⟨k,hk,rfl,HR⟩:=hrel
  by_cases hlt:k<6
  ·have hix:=fun W=>idx6 k hlt rSign W
   cases hq:((rSign k).toList==s.toList) with
   | true=>
    have E:Hid (rOp (bl s)=k):=rOp_found hlt (by rw[beq_bl] at hq;rw[dO hq])
    go_wp2_with fail
    go_ret
    exact⟨ret_int (by rw[E.out]),rfl⟩
   | false=>
    have HN:=hid (sgUp_step HR.out (k:=k) (by rw[beq_bl] at hq;exact fun e=>of_decide_eq_false hq (bl_inj e)))
    go_wp2_with fail
    go_round
    case rel=>exact⟨k+1,by omega,by go_num,HN⟩
    case measure=>simp[intOf];omega
  ·have E:Hid (rOp (bl s)=0):=rOp_none (by have:=HR.out;rwa [show k=6 by omega] at this)
   go_wp2_with fail
   go_ret
   exact⟨ret_int (by rw[E.out];rfl),rfl⟩
theorem rdep_known (s:BA)(w:World)(hG:Gl w):
  Calls Tryz.prog 236 #[.string s] w fun e w'=>e=.returned (.bool (rWordB (bl s)))∧w=w':=by
 have g0:=hG.rwd 0 (by omega)
 have g1:=hG.rwd 1 (by omega)
 have g2:=hG.rwd 2 (by omega)
 have g3:=hG.rwd 3 (by omega)
 have g4:=hG.rwd 4 (by omega)
 have g5:=hG.rwd 5 (by omega)
 clear hG
 go_enter Tryz.func236,Tryz.ntmps236
 go_wp2_with fail
 clear g0 g1 g2 g3 g4 g5
 go_loop [6] (fun i=>∃ k:Nat,k≤6∧i=.int .i64 k∧Hid (sgUp rWord (bl s) k)) (fun i=>6-(intOf i).toNat)
 case atStart=>exact⟨0,by omega,rfl,fun j hj=>by omega⟩
 case round=>
  obtain⟨k,hk,rfl,HR⟩:=hrel
  by_cases hlt:k<6
  ·have hix:=fun W=>idx6 k hlt rWord W
   cases hq:((rWord k).toList==s.toList) with
   | true=>
    have E:Hid (rWordB (bl s)=true):=rWord_found hlt (by rw[beq_bl] at hq;rw[dO hq])
    go_wp2_with fail
    go_ret
    exact⟨ret_bool E.out.symm,rfl⟩
   | false=>
    have HN:=hid (sgUp_step HR.out (k:=k) (by rw[beq_bl] at hq;exact fun e=>of_decide_eq_false hq (bl_inj e)))
    go_wp2_with fail
    go_round
    case rel=>exact⟨k+1,by omega,by go_num,HN⟩
    case measure=>simp[intOf];omega
  ·have E:Hid (rWordB (bl s)=false):=rWord_none (by have:=HR.out;rwa [show k=6 by omega] at this)
   go_wp2_with fail
   go_ret
   exact⟨ret_bool E.out.symm,rfl⟩
theorem closes_And (n:Nat):rCloses wAnd n=decide (2≤n):=by simp[rCloses,wAnd,wOr,wIf,wUnless,wWith,wWithout]
theorem closes_Or (n:Nat):rCloses wOr n=decide (2≤n):=by simp[rCloses,wAnd,wOr,wIf,wUnless,wWith,wWithout]
theorem closes_If (n:Nat):rCloses wIf n=(decide (n=2)||decide (n=3)):=by simp[rCloses,wAnd,wOr,wIf,wUnless,wWith,wWithout]
theorem closes_Unless (n:Nat):rCloses wUnless n=(decide (n=2)||decide (n=3)):=by simp[rCloses,wAnd,wOr,wIf,wUnless,wWith,wWithout]
theorem closes_With (n:Nat):rCloses wWith n=decide (n=2):=by simp[rCloses,wAnd,wOr,wIf,wUnless,wWith,wWithout]
theorem closes_Without (n:Nat):rCloses wWithout n=decide (n=2):=by simp[rCloses,wAnd,wOr,wIf,wUnless,wWith,wWithout]
theorem closes_none {op:LU}(h:rWordB op=false)(n:Nat):rCloses op n=false:=by
 unfold rCloses;apply dF
 have h1:=of_decide_eq_false h
 rintro(⟨h2 | h2,_⟩ | ⟨h2 | h2,_⟩ | ⟨h2 | h2,_⟩)<;>exact h1 (by simp[h2])
theorem word_cases (op:LU):op=wAnd∨op=wOr∨op=wIf∨op=wUnless∨op=wWith∨op=wWithout∨rWordB op=false:=by
 cases h:rWordB op with
 | false=>simp
 | true=>rcases rWordB_iff.1 h with h | h | h | h | h | h<;>simp[h]
theorem not_word {s:BA}(h:rWordB (bl s)=false):(s.toList == [97,110,100])=false∧(s.toList == [111,114])=false∧(s.toList == [105,102])=false∧(s.toList == [117,110,108,101,115,115])=false∧(s.toList == [119,105,116,104])=false∧(s.toList == [119,105,116,104,111,117,116])=false:=by
 rw[bl_toList]
 have h1:=of_decide_eq_false h
 refine⟨?_,?_,?_,?_,?_,?_⟩<;>rw[bF]<;>intro e<;>apply h1<;>rw[e]<;>simp[wAnd,wOr,wIf,wUnless,wWith,wWithout]
theorem rdep_closes_And (op:BA)(n:Nat)(w:World)(h:bl op=wAnd):
  Calls Tryz.prog 232 #[.string op,.int .i64 n] w fun e w'=>e=.returned (.bool (rCloses (bl op) n))∧w=w':=by
 have E:op.toList=[97,110,100]:=by rw[bl_toList];exact h
 have R:Hid (rCloses (bl op) n=decide (2≤n)):=by show _=_;rw[h];exact closes_And n
 clear h
 go_enter Tryz.func232,Tryz.ntmps232
 go_wp2_with fail
 go_ret
 exact⟨ret_bool (by rw[R.out,bI];simp;omega),rfl⟩
theorem rdep_closes_Or (op:BA)(n:Nat)(w:World)(h:bl op=wOr):
  Calls Tryz.prog 232 #[.string op,.int .i64 n] w fun e w'=>e=.returned (.bool (rCloses (bl op) n))∧w=w':=by
 have E:op.toList=[111,114]:=by rw[bl_toList];exact h
 have R:Hid (rCloses (bl op) n=decide (2≤n)):=by show _=_;rw[h];exact closes_Or n
 clear h
 go_enter Tryz.func232,Tryz.ntmps232
 go_wp2_with fail
 go_ret
 exact⟨ret_bool (by rw[R.out,bI];simp;omega),rfl⟩
theorem rdep_closes_If (op:BA)(n:Nat)(w:World)(h:bl op=wIf):
  Calls Tryz.prog 232 #[.string op,.int .i64 n] w fun e w'=>e=.returned (.bool (rCloses (bl op) n))∧w=w':=by
 have E:op.toList=[105,102]:=by rw[bl_toList];exact h
 have R:Hid (rCloses (bl op) n=(decide (n=2)||decide (n=3))):=by show _=_;rw[h];exact closes_If n
 clear h
 by_cases n2:n=2
 ·subst n2
  go_enter Tryz.func232,Tryz.ntmps232
  go_wp2_with fail
  go_ret
  exact⟨ret_bool (by rw[R.out];rfl),rfl⟩
 ·have q2:((n:Int)==2)=false:=by simp;omega
  by_cases n3:n=3
  ·subst n3
   go_enter Tryz.func232,Tryz.ntmps232
   go_wp2_with fail
   go_ret
   exact⟨ret_bool (by rw[R.out];rfl),rfl⟩
  ·have q3:((n:Int)==3)=false:=by simp;omega
   go_enter Tryz.func232,Tryz.ntmps232
   go_wp2_with fail
   go_ret
   exact⟨ret_bool (by rw[R.out];simp[n2,n3]),rfl⟩
theorem rdep_closes_Unless (op:BA)(n:Nat)(w:World)(h:bl op=wUnless):
  Calls Tryz.prog 232 #[.string op,.int .i64 n] w fun e w'=>e=.returned (.bool (rCloses (bl op) n))∧w=w':=by
 have E:op.toList=[117,110,108,101,115,115]:=by rw[bl_toList];exact h
 have R:Hid (rCloses (bl op) n=(decide (n=2)||decide (n=3))):=by show _=_;rw[h];exact closes_Unless n
 clear h
 by_cases n2:n=2
 ·subst n2
  go_enter Tryz.func232,Tryz.ntmps232
  go_wp2_with fail
  go_ret
  exact⟨ret_bool (by rw[R.out];rfl),rfl⟩
 ·have q2:((n:Int)==2)=false:=by simp;omega
  by_cases n3:n=3
  ·subst n3
   go_enter Tryz.func232,Tryz.ntmps232
   go_wp2_with fail
   go_ret
   exact⟨ret_bool (by rw[R.out];rfl),rfl⟩
  ·have q3:((n:Int)==3)=false:=by simp;omega
   go_enter Tryz.func232,Tryz.ntmps232
   go_wp2_with fail
   go_ret
   exact⟨ret_bool (by rw[R.out];simp[n2,n3]),rfl⟩
theorem rdep_closes_With (op:BA)(n:Nat)(w:World)(h:bl op=wWith):
  Calls Tryz.prog 232 #[.string op,.int .i64 n] w fun e w'=>e=.returned (.bool (rCloses (bl op) n))∧w=w':=by
 have E:op.toList=[119,105,116,104]:=by rw[bl_toList];exact h
 have R:Hid (rCloses (bl op) n=decide (n=2)):=by show _=_;rw[h];exact closes_With n
 clear h
 go_enter Tryz.func232,Tryz.ntmps232
 go_wp2_with fail
 go_ret
 exact⟨ret_bool (by rw[R.out];rw[bI];simp;omega),rfl⟩
theorem rdep_closes_Without (op:BA)(n:Nat)(w:World)(h:bl op=wWithout):
  Calls Tryz.prog 232 #[.string op,.int .i64 n] w fun e w'=>e=.returned (.bool (rCloses (bl op) n))∧w=w':=by
 have E:op.toList=[119,105,116,104,111,117,116]:=by rw[bl_toList];exact h
 have R:Hid (rCloses (bl op) n=decide (n=2)):=by show _=_;rw[h];exact closes_Without n
 clear h
 go_enter Tryz.func232,Tryz.ntmps232
 go_wp2_with fail
 go_ret
 exact⟨ret_bool (by rw[R.out];rw[bI];simp;omega),rfl⟩
theorem rdep_closes (op:BA)(n:Nat)(w:World):
  Calls Tryz.prog 232 #[.string op,.int .i64 n] w fun e w'=>e=.returned (.bool (rCloses (bl op) n))∧w=w':=by
 rcases word_cases (bl op) with h | h | h | h | h | h | h
 ·exact rdep_closes_And op n w h
 ·exact rdep_closes_Or op n w h
 ·exact rdep_closes_If op n w h
 ·exact rdep_closes_Unless op n w h
 ·exact rdep_closes_With op n w h
 ·exact rdep_closes_Without op n w h
 ·obtain⟨h1,h2,h3,h4,h5,h6⟩:=not_word h
  have R:Hid (rCloses (bl op) n=false):=closes_none h n
  clear h
  go_enter Tryz.func232,Tryz.ntmps232
  go_wp2_with fail
  go_ret
  exact⟨ret_bool R.out.symm,rfl⟩
theorem follows_And {n:Nat}(hn:n≠1)(p:LU):rFollows wAnd n p=decide (p=wAnd):=by
 unfold rFollows;rw[if_neg hn]
 by_cases hp:p=wAnd
 ·subst hp;simp[wAnd,wOr,wIf,wUnless,wWith,wWithout]
 ·rw[dF hp];apply dF;rintro(⟨_,h⟩ | ⟨h,_⟩)
  ·exact hp h
  ·revert h;simp[wAnd,wOr,wIf,wUnless]
theorem follows_Or {n:Nat}(hn:n≠1)(p:LU):rFollows wOr n p=decide (p=wOr):=by
 unfold rFollows;rw[if_neg hn]
 by_cases hp:p=wOr
 ·subst hp;simp[wAnd,wOr,wIf,wUnless,wWith,wWithout]
 ·rw[dF hp];apply dF;rintro(⟨_,h⟩ | ⟨h,_⟩)
  ·exact hp h
  ·revert h;simp[wAnd,wOr,wIf,wUnless]
theorem follows_If {n:Nat}(hn:n≠1)(p:LU):rFollows wIf n p=(decide (n=2)&&decide (p=wElse)):=by
 unfold rFollows;rw[if_neg hn]
 simp[wAnd,wOr,wIf,wUnless,wWith,wWithout]
theorem follows_Unless {n:Nat}(hn:n≠1)(p:LU):rFollows wUnless n p=(decide (n=2)&&decide (p=wElse)):=by
 unfold rFollows;rw[if_neg hn]
 simp[wAnd,wOr,wIf,wUnless,wWith,wWithout]
theorem follows_With {n:Nat}(hn:n≠1)(p:LU):rFollows wWith n p=false:=by
 unfold rFollows;rw[if_neg hn]
 simp[wAnd,wOr,wIf,wUnless,wWith,wWithout]
theorem follows_Without {n:Nat}(hn:n≠1)(p:LU):rFollows wWithout n p=false:=by
 unfold rFollows;rw[if_neg hn]
 simp[wAnd,wOr,wIf,wUnless,wWith,wWithout]
theorem follows_none {op:LU}(h:rWordB op=false){n:Nat}(hn:n≠1)(p:LU):rFollows op n p=false:=by
 unfold rFollows;rw[if_neg hn];apply dF
 have h1:=of_decide_eq_false h
 rintro(⟨h2 | h2,_⟩ | ⟨h2 | h2,_⟩)<;>exact h1 (by simp[h2])
theorem rdep_follows_And (op:BA)(n:Nat)(p:BA)(w:World)(h:bl op=wAnd)(hn:n≠1):
  Calls Tryz.prog 233 #[.string op,.int .i64 n,.string p] w fun e w'=>e=.returned (.bool (rFollows (bl op) n (bl p)))∧w=w':=by
 have E:op.toList=[97,110,100]:=by rw[bl_toList];exact h
 have R:Hid (rFollows (bl op) n (bl p)=decide (bl p=wAnd)):=by show _=_;rw[h];exact follows_And hn _
 have q1:((n:Int)==1)=false:=by simp;omega
 clear h
 cases hp:(p.toList==([97,110,100]:LU)) with
 | true=>
  have F:p.toList=[97,110,100]:=by simpa using hp
  have R2:Hid (rFollows (bl op) n (bl p)=true):=by show _=_;rw[R.out,←bl_toList,F];rfl
  clear hp
  go_enter Tryz.func233,Tryz.ntmps233
  go_wp2_with fail
  go_ret
  exact⟨ret_bool R2.out.symm,rfl⟩
 | false=>
  have R2:Hid (rFollows (bl op) n (bl p)=false):=by show _=_;rw[R.out,←bl_toList];exact dF (by rw[bF] at hp;exact hp)
  go_enter Tryz.func233,Tryz.ntmps233
  go_wp2_with fail
  go_ret
  exact⟨ret_bool R2.out.symm,rfl⟩
theorem rdep_follows_Or (op:BA)(n:Nat)(p:BA)(w:World)(h:bl op=wOr)(hn:n≠1):
  Calls Tryz.prog 233 #[.string op,.int .i64 n,.string p] w fun e w'=>e=.returned (.bool (rFollows (bl op) n (bl p)))∧w=w':=by
 have E:op.toList=[111,114]:=by rw[bl_toList];exact h
 have R:Hid (rFollows (bl op) n (bl p)=decide (bl p=wOr)):=by show _=_;rw[h];exact follows_Or hn _
 have q1:((n:Int)==1)=false:=by simp;omega
 clear h
 cases hp:(p.toList==([111,114]:LU)) with
 | true=>
  have F:p.toList=[111,114]:=by simpa using hp
  have R2:Hid (rFollows (bl op) n (bl p)=true):=by show _=_;rw[R.out,←bl_toList,F];rfl
  clear hp
  go_enter Tryz.func233,Tryz.ntmps233
  go_wp2_with fail
  go_ret
  exact⟨ret_bool R2.out.symm,rfl⟩
 | false=>
  have R2:Hid (rFollows (bl op) n (bl p)=false):=by show _=_;rw[R.out,←bl_toList];exact dF (by rw[bF] at hp;exact hp)
  go_enter Tryz.func233,Tryz.ntmps233
  go_wp2_with fail
  go_ret
  exact⟨ret_bool R2.out.symm,rfl⟩
theorem rdep_follows_If (op:BA)(n:Nat)(p:BA)(w:World)(h:bl op=wIf)(hn:n≠1):
  Calls Tryz.prog 233 #[.string op,.int .i64 n,.string p] w fun e w'=>e=.returned (.bool (rFollows (bl op) n (bl p)))∧w=w':=by
 have E:op.toList=[105,102]:=by rw[bl_toList];exact h
 have R:Hid (rFollows (bl op) n (bl p)=(decide (n=2)&&decide (bl p=wElse))):=by show _=_;rw[h];exact follows_If hn _
 have q1:((n:Int)==1)=false:=by simp;omega
 clear h
 by_cases n2:n=2
 ·subst n2
  cases hp:(p.toList==([101,108,115,101]:LU)) with
  | true=>
   have F:p.toList=[101,108,115,101]:=by simpa using hp
   have R2:Hid (rFollows (bl op) 2 (bl p)=true):=by show _=_;rw[R.out,←bl_toList,F];rfl
   clear hp
   go_enter Tryz.func233,Tryz.ntmps233
   go_wp2_with fail
   go_ret
   exact⟨ret_bool R2.out.symm,rfl⟩
  | false=>
   have R2:Hid (rFollows (bl op) 2 (bl p)=false):=by show _=_;rw[R.out,←bl_toList];simp only[decide_true,Bool.true_and];exact dF (by rw[bF] at hp;exact hp)
   go_enter Tryz.func233,Tryz.ntmps233
   go_wp2_with fail
   go_ret
   exact⟨ret_bool R2.out.symm,rfl⟩
 ·have q2:((n:Int)==2)=false:=by simp;omega
  have R2:Hid (rFollows (bl op) n (bl p)=false):=by show _=_;rw[R.out,dF n2];rfl
  go_enter Tryz.func233,Tryz.ntmps233
  go_wp2_with fail
  go_ret
  exact⟨ret_bool R2.out.symm,rfl⟩
theorem rdep_follows_Unless (op:BA)(n:Nat)(p:BA)(w:World)(h:bl op=wUnless)(hn:n≠1):
  Calls Tryz.prog 233 #[.string op,.int .i64 n,.string p] w fun e w'=>e=.returned (.bool (rFollows (bl op) n (bl p)))∧w=w':=by
 have E:op.toList=[117,110,108,101,115,115]:=by rw[bl_toList];exact h
 have R:Hid (rFollows (bl op) n (bl p)=(decide (n=2)&&decide (bl p=wElse))):=by show _=_;rw[h];exact follows_Unless hn _
 have q1:((n:Int)==1)=false:=by simp;omega
 clear h
 by_cases n2:n=2
 ·subst n2
  cases hp:(p.toList==([101,108,115,101]:LU)) with
  | true=>
   have F:p.toList=[101,108,115,101]:=by simpa using hp
   have R2:Hid (rFollows (bl op) 2 (bl p)=true):=by show _=_;rw[R.out,←bl_toList,F];rfl
   clear hp
   go_enter Tryz.func233,Tryz.ntmps233
   go_wp2_with fail
   go_ret
   exact⟨ret_bool R2.out.symm,rfl⟩
  | false=>
   have R2:Hid (rFollows (bl op) 2 (bl p)=false):=by show _=_;rw[R.out,←bl_toList];simp only[decide_true,Bool.true_and];exact dF (by rw[bF] at hp;exact hp)
   go_enter Tryz.func233,Tryz.ntmps233
   go_wp2_with fail
   go_ret
   exact⟨ret_bool R2.out.symm,rfl⟩
 ·have q2:((n:Int)==2)=false:=by simp;omega
  have R2:Hid (rFollows (bl op) n (bl p)=false):=by show _=_;rw[R.out,dF n2];rfl
  go_enter Tryz.func233,Tryz.ntmps233
  go_wp2_with fail
  go_ret
  exact⟨ret_bool R2.out.symm,rfl⟩
theorem rdep_follows_With (op:BA)(n:Nat)(p:BA)(w:World)(h:bl op=wWith)(hn:n≠1):
  Calls Tryz.prog 233 #[.string op,.int .i64 n,.string p] w fun e w'=>e=.returned (.bool (rFollows (bl op) n (bl p)))∧w=w':=by
 have E:op.toList=[119,105,116,104]:=by rw[bl_toList];exact h
 have R:Hid (rFollows (bl op) n (bl p)=false):=by show _=_;rw[h];exact follows_With hn _
 have q1:((n:Int)==1)=false:=by simp;omega
 clear h
 go_enter Tryz.func233,Tryz.ntmps233
 go_wp2_with fail
 go_ret
 exact⟨ret_bool R.out.symm,rfl⟩
theorem rdep_follows_Without (op:BA)(n:Nat)(p:BA)(w:World)(h:bl op=wWithout)(hn:n≠1):
  Calls Tryz.prog 233 #[.string op,.int .i64 n,.string p] w fun e w'=>e=.returned (.bool (rFollows (bl op) n (bl p)))∧w=w':=by
 have E:op.toList=[119,105,116,104,111,117,116]:=by rw[bl_toList];exact h
 have R:Hid (rFollows (bl op) n (bl p)=false):=by show _=_;rw[h];exact follows_Without hn _
 have q1:((n:Int)==1)=false:=by simp;omega
 clear h
 go_enter Tryz.func233,Tryz.ntmps233
 go_wp2_with fail
 go_ret
 exact⟨ret_bool R.out.symm,rfl⟩
theorem rdep_follows (op:BA)(n:Nat)(p:BA)(w:World)(hG:Gl w):
  Calls Tryz.prog 233 #[.string op,.int .i64 n,.string p] w fun e w'=>e=.returned (.bool (rFollows (bl op) n (bl p)))∧w=w':=by
 by_cases n1:n=1
 ·subst n1
  have R:Hid (rFollows (bl op) 1 (bl p)=rWordB (bl p)):=rfl
  have hK:=rdep_known p w hG
  clear hG
  go_enter Tryz.func233,Tryz.ntmps233
  go_wp2_with fail
  refine hK.mono ?_;rintro e w' ⟨rfl,rfl⟩
  go_wp2_with fail
  go_ret
  exact⟨ret_bool R.out.symm,rfl⟩
 rcases word_cases (bl op) with h | h | h | h | h | h | h
 ·exact rdep_follows_And op n p w h n1
 ·exact rdep_follows_Or op n p w h n1
 ·exact rdep_follows_If op n p w h n1
 ·exact rdep_follows_Unless op n p w h n1
 ·exact rdep_follows_With op n p w h n1
 ·exact rdep_follows_Without op n p w h n1
 ·obtain⟨h1,h2,h3,h4,h5,h6⟩:=not_word h
  have R:Hid (rFollows (bl op) n (bl p)=false):=follows_none h n1 _
  have q1:((n:Int)==1)=false:=by simp;omega
  clear h hG n1
  go_enter Tryz.func233,Tryz.ntmps233
  go_wp2_with fail
  go_ret
  exact⟨ret_bool R.out.symm,rfl⟩
end
section
open Go.RowKit Go.MapKept
def RchM.key (t:RchM):Value:=.agg #[.pointer t.ka,.int .i64 t.kids.length]
theorem info_rich:(Tryz.prog.info? 121).map (fun i=>(i.zero,i.size,i.bytes))=some (some (.agg #[.string ⟨#[]⟩,.string ⟨#[]⟩,.int .i64 0,.string ⟨#[]⟩,.slice none 0 0]),5,80):=by kernel_rfl
theorem own_addr {w:World}{lo:Nat}{bad:Option Nat}{t:RchM}(h:TOwn w lo bad t)(hk:t.kids≠[]):∃ g cur,t.ka=some ⟨g,0,none⟩∧w.heap[g]?=some (.cells cur 121 (0,0))∧lo≤g:=by
 rcases h.row.2 with⟨_,h0⟩ | ⟨g,cap,cur,hv,h1,h2,_⟩
 ·exact absurd (List.length_eq_zero_iff.1 h0) hk
 ·injection hv with hv
  exact⟨g,cur,hv,h2,h1⟩
theorem ptr_same (w:World)(d:Nat)(a:Addr):(Op.equalIn (d+1) 264 (.pointer (some a)) (.pointer (some a))).run Tryz.prog w=.ok true w:=by
 obtain⟨i0,hi0,_,hz,_⟩:=info_parts info_rich
 simp[Op.equalIn,run_underlying Tryz.underlying264,sizeOf,typeInfo,hi0,run_sameAddr_same]
theorem ptr_other (w:World)(d:Nat){a b:Addr}{ca cb:Array Value}{ta tb:TypeId}(hne:a≠b)(ha:w.heap[a.block]?=some (.cells ca ta (0,0)))(hb:w.heap[b.block]?=some (.cells cb tb (0,0))):(Op.equalIn (d+1) 264 (.pointer (some a)) (.pointer (some b))).run Tryz.prog w=.ok false w:=by
 obtain⟨i0,hi0,_,hz,_⟩:=info_parts info_rich
 simp[Op.equalIn,run_underlying Tryz.underlying264,sizeOf,typeInfo,hi0,hz,run_sameAddr_other w hne ha hb]
theorem key_equal {w:World}{t u:RchM}(ht:TOwn w 0 none t)(hu:TOwn w 0 none u)(kt:t.kids≠[])(ku:u.kids≠[]):
  (Op.equal 266 t.key u.key).run Tryz.prog w=.ok (decide (t.ka=u.ka∧t.kids.length=u.kids.length)) w:=by
 obtain⟨g1,c1,e1,h1,_⟩:=own_addr ht kt
 obtain⟨g2,c2,e2,h2,_⟩:=own_addr hu ku
 unfold RchM.key Op.equal Op.maxDepth
 rw[e1,e2]
 by_cases hg:g1=g2
 ·subst hg
  have hp:=fun d=>ptr_same w d ⟨g1,0,none⟩
  simp[go_sem,hp]
  by_cases hl:t.kids.length=u.kids.length
  ·simp[hl]
  ·simp[hl];omega
 ·have hp:=fun d=>ptr_other w d (a:=⟨g1,0,none⟩) (b:=⟨g2,0,none⟩) (fun e=>hg (by injection e)) h1 h2
  simp[go_sem,hp,hg]
theorem key_check (w:World)(em:Bool)(t:RchM):(Instr.checkKey em 10000 266 t.key).run Tryz.prog w=.ok () w:=by
 have h:∀ d:Nat,(Instr.checkKey em (d+1+1) 266 t.key).run Tryz.prog w=.ok () w:=by
  intro d
  unfold RchM.key
  simp[Instr.checkKey,run_underlying Tryz.underlying266,go_sem]
 exact h 9998
theorem key_stays (w:World){t u:RchM}(h1:t.ka=u.ka)(h2:t.kids.length=u.kids.length):(Instr.keyThatStays t.key u.key).run Tryz.prog w=.ok u.key w:=by
 have:t.key=u.key:=by unfold RchM.key;rw[h1,h2]
 rw[this]
 unfold RchM.key
 simp[Instr.keyThatStays,Instr.sameBits]
theorem find_asks (w:World)(k:Value)(es:List MapEntry):(Instr.findKey 266 k es).run Tryz.prog w=(Instr.findAsking 266 k es 0).run Tryz.prog w:=by
 cases es with
 | nil=>simp[Instr.findKey,Instr.findAsking,Instr.findNow,run_underlying Tryz.underlying266]
 | cons e r=>simp[Instr.findKey,Instr.findNow,Instr.sameNow,run_underlying Tryz.underlying266]
structure KMap (w:World) (b:Nat) (ms:List (RchM×Nat)):Prop where
 ex:∃ es clock,w.heap[b]?=some (.map es clock)∧es.toList.map (fun e=>(e.key,e.val))=ms.map (fun p=>(p.1.key,Value.int .i64 p.2))
 own:∀ p∈ms,TOwn w 0 none p.1∧p.1.kids≠[]
theorem find_key {w:World}{t:RchM}(ht:TOwn w 0 none t)(hk:t.kids≠[]):∀ (es:List MapEntry)(ms:List (RchM×Nat))(i:Nat),es.map (fun e=>(e.key,e.val))=ms.map (fun p=>(p.1.key,Value.int .i64 p.2))→(∀ p∈ms,TOwn w 0 none p.1∧p.1.kids≠[]) →
  ((Instr.findAsking 266 t.key es i).run Tryz.prog w=.ok none w) ∨
  ∃ j p,(Instr.findAsking 266 t.key es i).run Tryz.prog w=.ok (some (i+j,Value.int .i64 p.2)) w∧ms[j]?=some p∧p.1.ka=t.ka∧p.1.kids=t.kids
 | [],ms,i,_,_=>.inl (by simp[Instr.findAsking])
 | e::es,[],i,h,_=>by simp at h
 | e::es,p::ms,i,h,ho=>by
  simp only[List.map_cons,List.cons.injEq,Prod.mk.injEq] at h
  obtain⟨⟨h1,h2⟩,h3⟩:=h
  obtain⟨o1,o2⟩:=ho p (by simp)
  have hq:=key_equal ht o1 hk o2
  by_cases he:t.ka=p.1.ka∧t.kids.length=p.1.kids.length
  ·right
   refine⟨0,p,?_,rfl,he.1.symm,(same_kids ht.rd p.1 o1.rd he.1 he.2).symm⟩
   rw[dT he] at hq
   simp[Instr.findAsking,h1,h2,hq]
  ·rw[dF he] at hq
   rcases find_key ht hk es ms (i+1) h3 (fun q hq=>ho q (by simp[hq])) with h4 | ⟨j,q,h4,h5,h6⟩
   ·left;simp[Instr.findAsking,h1,hq,h4]
   ·right;exact⟨j+1,q,by simp[Instr.findAsking,h1,hq,h4,Nat.add_assoc,Nat.add_comm 1 j],by simpa using h5,h6⟩
theorem KMap.look {w:World}{b:Nat}{ms:List (RchM×Nat)}(h:KMap w b ms){t:RchM}(ht:TOwn w 0 none t)(hk:t.kids≠[]):
  ((Instr.lookup 220 (.map (some b)) t.key true).run Tryz.prog w=.ok (.tuple #[.int .i64 0,.bool false]) w) ∨
  ∃ p∈ms,p.1.kids=t.kids∧(Instr.lookup 220 (.map (some b)) t.key true).run Tryz.prog w=.ok (.tuple #[.int .i64 p.2,.bool true]) w:=by
 obtain⟨es,clock,hb,hm⟩:=h.ex
 rcases find_key ht hk es.toList ms 0 hm h.own with h1 | ⟨j,p,h1,h2,h3,h4⟩
 ·left;simp[Instr.lookup,run_underlying Tryz.underlying220,MapKept.run_getObj_map hb,key_check,find_asks,h1,go_sem]
 ·right;exact⟨p,gM h2,h4,by simp[Instr.lookup,run_underlying Tryz.underlying220,MapKept.run_getObj_map hb,key_check,find_asks,h1]⟩
theorem TOwn.off {w:World}{lo b:Nat}{bad:Option Nat}{t:RchM}{es:Array MapEntry}{c:Nat}(h:TOwn w lo bad t)(hb:w.heap[b]?=some (.map es c)):TOwn w lo (some b) t:=by
 induction h with
 | mk t row ne _ ih=>
  refine .mk t row (fun g hg e=>?_) ih
  injection e with e;subst e
  rcases row.2 with⟨hv,_⟩ | ⟨g',cap,cur,hv,_,h2,_⟩
  ·rw[hv] at hg;simp[Value.ownBlock] at hg
  ·rw[hv] at hg;simp[Value.ownBlock] at hg;subst hg;rw[hb] at h2;simp at h2
theorem KMap.tree {w w':World}{lo b:Nat}{ms:List (RchM×Nat)}{t:RchM}(h:KMap w b ms)(ht:TOwn w lo none t)(hg:w.grownBy w' (some b)):TOwn w' lo none t:=by
 obtain⟨es,clock,hb,_⟩:=h.ex
 exact((ht.off hb).grown hg).any
theorem KMap.below {w w':World}{b:Nat}{ms:List (RchM×Nat)}(h:KMap w b ms)(hb:Below w.heap.size w w'):KMap w' b ms:=by
 obtain⟨es,clock,h1,h2⟩:=h.ex
 exact⟨⟨es,clock,(hb.block b (Array.getElem?_eq_some_iff.1 h1).1).trans h1,h2⟩,fun p hp=>⟨(h.own p hp).1.low hb,(h.own p hp).2⟩⟩
theorem KMap.lt {w:World}{b:Nat}{ms:List (RchM×Nat)}(h:KMap w b ms):b<w.heap.size:=by
 obtain⟨es,clock,h1,h2⟩:=h.ex;exact(Array.getElem?_eq_some_iff.1 h1).1
theorem KMap.made (w:World):KMap (w.alloc (.map #[] 0)) w.heap.size []:=⟨⟨#[],0,heap_alloc_new w _,by simp⟩,by simp⟩
theorem KMap.put {w:World}{b:Nat}{ms:List (RchM×Nat)}(h:KMap w b ms){t:RchM}(ht:TOwn w 0 none t)(hk:t.kids≠[])(v:Nat):
  ∃ w' ms',(Instr.mapUpdate 220 (.map (some b)) t.key (.int .i64 v)).run Tryz.prog w=.ok () w'∧KMap w' b ms'∧w.grownBy w' (some b)∧w'.heap.size=w.heap.size ∧
   (∀ p∈ms',(∃ q∈ms,q=p)∨p.1.kids=t.kids∧p.2=v)∧(∀ p∈ms,∃ q∈ms',q.1=p.1)∧∃ q∈ms',q.1.kids=t.kids:=by
 obtain⟨es,clock,hb,hm⟩:=h.ex
 have hlt:=h.lt
 have grow:∀ o,w.grownBy { w with heap:=w.heap.setIfInBounds b o } (some b):=fun o=>⟨rfl,rfl,rfl,by simp,fun k hk hne=>(heap_set hb).2 k (fun e=>hne (by rw[e]))⟩
 rcases find_key ht hk es.toList ms 0 hm h.own with h1 | ⟨j,p,h1,h2,h3,h4⟩
 ·refine⟨{ w with heap:=w.heap.setIfInBounds b (.map (es.push { key:=t.key,val:=.int .i64 v,born:=clock }) (clock+1)) },ms++[(t,v)],?_,⟨⟨_,_,(heap_set hb).1,by simp[hm]⟩,fun p hp=>?_⟩,grow _,by simp,fun p hp=>?_,fun p hp=>⟨p,by simp[hp],rfl⟩,⟨(t,v),by simp,rfl⟩⟩
  ·simp[Instr.mapUpdate,run_underlying Tryz.underlying220,MapKept.run_getObj_map hb,key_check,find_asks,h1,MapKept.run_setObj_map _ hb]
  ·rcases List.mem_append.1 hp with hp | hp
   ·exact⟨h.tree (h.own p hp).1 (grow _),(h.own p hp).2⟩
   ·obtain rfl:=List.mem_singleton.1 hp
    exact⟨h.tree ht (grow _),hk⟩
  ·rcases List.mem_append.1 hp with hp | hp
   ·exact .inl ⟨p,hp,rfl⟩
   ·obtain rfl:=List.mem_singleton.1 hp
    exact .inr ⟨rfl,rfl⟩
 ·simp only[Nat.zero_add] at h1
  obtain⟨hj,hpj⟩:=gS h2
  have hlen:es.size=ms.length:=by have:=congrArg List.length hm;simpa using this
  have hek:es[j]?.map (fun e=>e.key)=some p.1.key:=by
   have:=congrArg (fun l=>l[j]?) hm
   simp[h2] at this
   obtain⟨e,he,h5,h6⟩:=this
   rw[he];simp[h5]
  have hst:=key_stays w (t:=p.1) (u:=t) h3 (by rw[h4])
  have hkey:p.1.key=t.key:=by unfold RchM.key;rw[h3,h4]
  refine⟨{ w with heap:=w.heap.setIfInBounds b (.map (es.modify j fun e=>{ e with key:=t.key,val:=.int .i64 v }) clock) },ms.set j (p.1,v),?_,⟨⟨_,_,(heap_set hb).1,?_⟩,fun q hq=>?_⟩,grow _,by simp,fun q hq=>?_,fun q hq=>?_,⟨(p.1,v),List.mem_set hj _,h4⟩⟩
  ·simp[Instr.mapUpdate,run_underlying Tryz.underlying220,MapKept.run_getObj_map hb,key_check,find_asks,h1,MapKept.run_setObj_map _ hb,hek,hst]
  ·apply List.ext_getElem?
   intro i
   have hi:=congrArg (fun l=>l[i]?) hm
   simp only[List.getElem?_map,Array.getElem?_toList] at hi
   simp only[List.getElem?_map,Array.getElem?_toList,Array.getElem?_modify,List.getElem?_set]
   by_cases hij:j=i
   ·subst hij
    obtain⟨e,he⟩:∃ e,es[j]?=some e:=⟨_,Array.getElem?_eq_getElem (by rw[hlen];exact hj)⟩
    simp[hj,he,hkey]
   ·simp[hij,hi]
  ·rcases List.mem_or_eq_of_mem_set hq with hq | rfl
   ·exact⟨h.tree (h.own q hq).1 (grow _),(h.own q hq).2⟩
   ·exact⟨h.tree (h.own p (gM h2)).1 (grow _),(h.own p (gM h2)).2⟩
  ·rcases List.mem_or_eq_of_mem_set hq with hq | rfl
   ·exact .inl ⟨q,hq,rfl⟩
   ·exact .inr ⟨h4,rfl⟩
  ·obtain⟨i,hi⟩:=List.getElem?_of_mem hq
   by_cases hij:j=i
   ·subst hij;rw[h2] at hi;injection hi with hi;subst hi
    exact⟨(p.1,v),List.mem_set hj _,rfl⟩
   ·exact⟨q,gM (i:=i) (by rw[List.getElem?_set_ne hij];exact hi),rfl⟩
theorem heights_len (f:RchM→Nat):∀ (m:Nat)(l:List (RchM×Nat)),(∀ i,i<m→∃ p∈l,f p.1=i)→m≤l.length
 | 0,_,_=>z0
 | m+1,l,h=>by
  obtain⟨p,hp,hf⟩:=h m (by omega)
  have h1:=heights_len f m (l.filter fun q=>decide (f q.1≠m)) (fun i hi=>by
   obtain⟨q,hq,hfq⟩:=h i (by omega)
   exact⟨q,List.mem_filter.2 ⟨hq,by simp;omega⟩,hfq⟩)
  have h2:(l.filter fun q=>decide (f q.1≠m)).length<l.length:=List.length_filter_lt_length_iff_exists.2 ⟨p,hp,by simp[hf]⟩
  omega
end
section
open Go.RowKit Go.Deep
structure PR (w:World) (a hi:Nat) (l:LU) (n m:Nat):Prop where
 blk:∃ (b off c f:Nat) (xs:List PtM),Blk w a [.slice (some ⟨b,off,none⟩) m c,.int .i64 n]∧Rd w 2 (some ⟨b,off,none⟩) m (xs.flatMap PtM.cells)∧xs.length=m∧xs.map (fun x=>bl x.text)=rToks (f+1) l∧l.length≤f∧b≠a∧b<hi∧m≤c∧c≤maxLen∧∀ x∈xs,x.text.size≤4294967280
 lt:a<hi
 hz:hi≤w.heap.size
structure PRc (w:World) (a b off m c n:Nat) (T:BA) (p:Nat):Prop where
 c0:w.cell? ⟨a,0,none⟩=some (.slice (some ⟨b,off,none⟩) m c)
 c1:w.cell? ⟨a,1,none⟩=some (.int .i64 n)
 f0:w.frozen? ⟨a,0,none⟩=false
 f1:w.frozen? ⟨a,1,none⟩=false
 t0:w.cell? ⟨b,off,none⟩=some (.string T)
 t1:w.cell? ⟨b,off+1,none⟩=some (.int .i64 p)
 ne:b≠a
 m1:1≤m
 mc:m≤c
 cz:c≤maxLen
 tz:T.size≤4294967280
theorem PR.cells {w:World}{a hi n m:Nat}{l:LU}(h:PR w a hi l n m):∃ b off c T p,PRc w a b off m c n T p∧bl T=rLook l∧(rLook l≠[]→2≤m∧PR (w.setCell ⟨a,0,none⟩ (.slice (some ⟨b,off+2,none⟩) ((m-1:Nat)) ((c-1:Nat)))) a hi (rNext l) n (m-1)):=by
 obtain⟨b,off,c,f,xs,k,hr,hm,hx,hf,hne,hbh,hmc,hcz,hz⟩:=h.blk
 obtain⟨r,h1,h2⟩:=rToks_cons f l
 rw[h1] at hx
 cases xs with
 | nil=>simp at hx
 | cons x xs=>
  simp only[List.map_cons,List.cons.injEq] at hx
  obtain⟨hx0,hx1⟩:=hx
  have hm1:0<m:=by rw[←hm];simp
  obtain⟨b',off',e,hc⟩:=hr.2 hm1
  injection e with e;injection e with eb eo _
  subst eb eo
  have u0:=hc 0 (.string x.text) rfl
  have u1:=hc 1 (.int .i64 x.at_) rfl
  refine⟨b,off,c,x.text,x.at_,⟨k.cell 0 _ rfl,k.cell 1 _ rfl,k.free 0 (by simp),k.free 1 (by simp),u0,u1,hne,hm1,hmc,hcz,hz x (by simp)⟩,hx0,fun hl=>?_⟩
  have hr2:=h2 hl
  have hf2:∃ f',f=f'+1:=⟨f-1,by have:=rLook_next hl;omega⟩
  obtain⟨f',rfl⟩:=hf2
  obtain⟨r',h3,_⟩:=rToks_cons f' (rNext l)
  have hm2:2≤m:=by
   rw[←hm,List.length_cons]
   have:xs.length=r.length:=by rw[←hx1,List.length_map]
   rw[hr2,h3] at this;simp at this;omega
  refine⟨hm2,⟨b,off+2,c-1,f',xs,k.set 0 (by simp) _,?_,?_,?_,?_,hne,hbh,by omega,by omega,fun y hy=>hz y (by simp[hy])⟩,h.lt,by simpa using h.hz⟩
  ·have hk:∀ p:Addr,p.block=b→(w.setCell ⟨a,0,none⟩ (.slice (some ⟨b,off+2,none⟩) (m-1) (c-1))).cell? p=w.cell? p:=fun p hp=>World.cell?_setCell_other _ _ _ _ (by intro h;apply hne;rw[←hp,←h])
   refine⟨?_,fun _=>⟨b,off+2,rfl,fun j u hu=>?_⟩⟩
   ·have:=hr.1;rw[List.flatMap_cons,List.length_append,ptm_len] at this;omega
   ·rw[hk _ rfl]
    have:=hc (j+2) u (by rw[List.flatMap_cons,List.getElem?_append_right (by simp[PtM.cells])];simpa [PtM.cells] using hu)
    rw[show off+2+j=off+(j+2) by omega];exact this
  ·rw[←hm];simp
  ·rw[hx1,hr2]
  ·have:=rLook_next hl;omega
theorem PR.grown {w w':World}{a hi n m:Nat}{l:LU}{row:Option Nat}(h:PR w a hi l n m)(hg:w.grownBy w' row)(hne:∀ j,row=some j→hi≤j):PR w' a hi l n m:=by
 obtain⟨b,off,c,f,xs,k,hr,hm,hx,hf,hba,hbh,h1⟩:=h.blk
 have hn:∀ j,j<hi→some j≠row:=fun j hj e=>by have:=hne j e.symm;omega
 refine⟨⟨b,off,c,f,xs,k.grownBy hg (hn a h.lt),?_,hm,hx,hf,hba,hbh,h1⟩,h.lt,Nat.le_trans h.hz hg.size⟩
 refine⟨hr.1,fun h0=>?_⟩
 obtain⟨b',off',e,hc⟩:=hr.2 h0
 injection e with e;injection e with e1 e2 _
 subst e1 e2
 exact⟨b,off,rfl,fun j u hu=>hg.cell (hc j u hu) (hn b hbh)⟩
theorem PR.below {w w':World}{a hi n m:Nat}{l:LU}(h:PR w a hi l n m)(hb:Below w.heap.size w w'):PR w' a hi l n m:=h.grown (below_grows hb none) (by simp)
theorem PR.sz {w:World}{a hi n m:Nat}{l:LU}(h:PR w a hi l n m):a<w.heap.size:=Nat.lt_of_lt_of_le h.lt h.hz
theorem PR.alloc {w:World}{a hi n m:Nat}{l:LU}(h:PR w a hi l n m)(o:Obj):PR (w.alloc o) a hi l n m:=h.below (bR.alloc lr o)
theorem PR.far {w:World}{a hi n m b j:Nat}{l:LU}(h:PR w a hi l n m)(hb:hi≤b)(v:Value):PR (w.setCell ⟨b,j,none⟩ v) a hi l n m:=h.grown (kept_set v) (fun j e=>by injection e with e;omega)
theorem PR.count {w:World}{a hi n m:Nat}{l:LU}(h:PR w a hi l n m)(v:Nat):PR (w.setCell ⟨a,1,none⟩ (.int .i64 v)) a hi l v m:=by
 obtain⟨b,off,c,f,xs,k,hr,hm,hx,hf,hne,h1⟩:=h.blk
 refine⟨⟨b,off,c,f,xs,k.set 1 (by simp) _,?_,hm,hx,hf,hne,h1⟩,h.lt,by simpa using h.hz⟩
 refine⟨hr.1,fun h0=>?_⟩
 obtain⟨b',off',e,hc⟩:=hr.2 h0
 refine⟨b',off',e,fun j u hu=>?_⟩
 rw[World.cell?_setCell_other (h:=by injection e with e;injection e with e1;intro h;apply hne;rw[e1];injection h with h;exact h.symm)]
 exact hc j u hu
end
end Go.Proofs.YtdfdllbebfoggaaGreatDoor
