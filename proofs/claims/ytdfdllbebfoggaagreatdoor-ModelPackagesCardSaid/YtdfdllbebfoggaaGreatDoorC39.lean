/- A part of the proof that ModelPackages holds. No condition. -/
import Derived.Deep.RegionHeld3
import Derived.LaidEqlPtr
import Derived.Laws.StructEq
import Derived.MapKept
import Derived.Test.YtdfdllbebfoggaaGreatDoorC33
set_option maxRecDepth 100000
set_option maxHeartbeats 20000000
set_option linter.unusedVariables false
set_option linter.unusedSimpArgs false
namespace Go.Proofs.YtdfdllbebfoggaaGreatDoor
section
open Go.RowKit
inductive RchM where
 | mk (op nm:ByteArray) (aop:Nat) (ver:ByteArray) (ka:Option Addr) (kc:Nat) (kids:List RchM)
def RchM.op:RchM→ByteArray | .mk op _ _ _ _ _ _=>op
def RchM.nm:RchM→ByteArray | .mk _ nm _ _ _ _ _=>nm
def RchM.aop:RchM→Nat | .mk _ _ a _ _ _ _=>a
def RchM.ver:RchM→ByteArray | .mk _ _ _ v _ _ _=>v
def RchM.ka:RchM→Option Addr | .mk _ _ _ _ a _ _=>a
def RchM.kc:RchM→Nat | .mk _ _ _ _ _ c _=>c
def RchM.kids:RchM→List RchM | .mk _ _ _ _ _ _ k=>k
def RchM.cells (t:RchM):List Value:=[.string t.op,.string t.nm,.int .i64 t.aop,.string t.ver,.slice t.ka t.kids.length t.kc]
def RchM.val (t:RchM):Value:=.agg #[.string t.op,.string t.nm,.int .i64 t.aop,.string t.ver,.slice t.ka t.kids.length t.kc]
theorem rch_len (t:RchM):t.cells.length=5:=rfl
theorem RchM.eta (t:RchM):t=.mk t.op t.nm t.aop t.ver t.ka t.kc t.kids:=by cases t;rfl
mutual
def RchM.pl:RchM→Rch
 | .mk op nm aop ver _ _ kids=>if bl op=[] then .atom (bl nm) aop (bl ver) else .node (bl op) (plL kids)
def plL:List RchM→List Rch
 | []=>[]
 | t::r=>t.pl::plL r
end
theorem plL_map (l:List RchM):plL l=l.map RchM.pl:=by
 induction l with
 | nil=>simp[plL]
 | cons a r ih=>simp[plL,ih]
mutual
def RchM.ht:RchM→Nat
 | .mk _ _ _ _ _ _ kids=>htL kids
def htL:List RchM→Nat
 | []=>0
 | t::r=>max (t.ht+1) (htL r)
end
mutual
def RchM.cnt:RchM→Nat
 | .mk _ _ _ _ _ _ []=>1
 | .mk _ _ _ _ _ _ (t::r)=>t.cnt+cntL r
def cntL:List RchM→Nat
 | []=>0
 | t::r=>t.cnt+cntL r
end
theorem ht_eq (t:RchM):t.ht=htL t.kids:=by cases t;simp[RchM.ht,RchM.kids]
theorem cnt_leaf {t:RchM}(h:t.kids=[]):t.cnt=1:=by cases t;simp only[RchM.kids] at h;subst h;simp[RchM.cnt]
theorem cnt_node {t:RchM}(h:t.kids≠[]):t.cnt=cntL t.kids:=by
 obtain⟨_,_,_,_,_,_,ks⟩:=t
 cases ks with
 | nil=>exact absurd rfl h
 | cons a r=>simp[RchM.cnt,RchM.kids,cntL]
theorem htL_mem {l:List RchM}{t:RchM}(h:t∈l):t.ht+1≤htL l:=by
 induction l with
 | nil=>simp at h
 | cons a r ih=>
  simp only[htL]
  rcases List.mem_cons.1 h with rfl | h
  ·omega
  ·have:=ih h;omega
theorem htL_top {l:List RchM}(h:l≠[]):∃ t∈l,t.ht+1=htL l:=by
 induction l with
 | nil=>exact absurd rfl h
 | cons a r ih=>
  simp only[htL]
  by_cases hr:r=[]
  ·subst hr;exact⟨a,by simp,by simp[htL]⟩
  ·obtain⟨t,ht,he⟩:=ih hr
   by_cases hm:htL r≤a.ht+1
   ·exact⟨a,by simp,by omega⟩
   ·exact⟨t,by simp[ht],by omega⟩
theorem ht_kid {t k:RchM}(h:k∈t.kids):k.ht+1≤t.ht:=by rw[ht_eq t];exact htL_mem h
theorem ht_zero {t:RchM}:t.ht=0↔t.kids=[]:=by
 rw[ht_eq]
 constructor
 ·intro h
  by_cases hk:t.kids=[]
  ·exact hk
  ·obtain⟨k,_,he⟩:=htL_top hk;omega
 ·intro h;rw[h];rfl
theorem cntL_append (a b:List RchM):cntL (a++b)=cntL a+cntL b:=by
 induction a with
 | nil=>simp[cntL]
 | cons x r ih=>simp[cntL,ih];omega
theorem cnt_pos (t:RchM):0<t.cnt:=by
 match t with
 | .mk _ _ _ _ _ _ []=>simp[RchM.cnt]
 | .mk _ _ _ _ _ _ (a::r)=>have:=cnt_pos a;simp[RchM.cnt];omega
theorem cntL_len (l:List RchM):l.length≤cntL l:=by
 induction l with
 | nil=>simp
 | cons a r ih=>have:=cnt_pos a;simp[cntL];omega
theorem cntL_mem {l:List RchM}{t:RchM}(h:t∈l):t.cnt≤cntL l:=by
 induction l with
 | nil=>simp at h
 | cons a r ih=>
  simp only[cntL]
  rcases List.mem_cons.1 h with rfl | h
  ·omega
  ·have:=ih h;omega
theorem cntL_take {l:List RchM}{k:Nat}{t:RchM}(h:l[k]?=some t):cntL (l.take (k+1))=cntL (l.take k)+t.cnt:=by
 obtain⟨hk,hg⟩:=List.getElem?_eq_some_iff.1 h
 rw[List.take_succ_eq_append_getElem hk,hg,cntL_append];simp[cntL]
theorem cntL_take_le (l:List RchM)(k:Nat):cntL (l.take k)≤cntL l:=by
 conv=>rhs;rw[←List.take_append_drop k l,cntL_append]
 omega
inductive TOwn (w:World) (lo:Nat) (bad:Option Nat):RchM→Prop
 | mk (t:RchM) (row:w.ownsRow lo 121 5 (.slice t.ka t.kids.length t.kc) t.kids.length (t.kids.flatMap RchM.cells)) (ne:∀ g,(Value.slice t.ka t.kids.length t.kc).ownBlock=some g→some g≠bad) (kids:∀ k∈t.kids,TOwn w lo bad k):TOwn w lo bad t
theorem TOwn.row {w:World}{lo:Nat}{bad:Option Nat}{t:RchM}(h:TOwn w lo bad t):w.ownsRow lo 121 5 (.slice t.ka t.kids.length t.kc) t.kids.length (t.kids.flatMap RchM.cells):=by cases h;assumption
theorem TOwn.kids {w:World}{lo:Nat}{bad:Option Nat}{t:RchM}(h:TOwn w lo bad t):∀ k∈t.kids,TOwn w lo bad k:=by cases h;assumption
theorem TOwn.low {w w':World}{lo:Nat}{bad:Option Nat}{t:RchM}(h:TOwn w lo bad t)(hb:Below w.heap.size w w'):TOwn w' lo bad t:=by
 induction h with
 | mk t row ne _ ih=>exact .mk t (owns_below row hb) ne ih
theorem TOwn.kept {w w':World}{lo g:Nat}{bad:Option Nat}{t:RchM}(h:TOwn w lo bad t)(hlo:g<lo)(hg:w.grownBy w' (some g)):TOwn w' lo bad t:=by
 induction h with
 | mk t row ne _ ih=>exact .mk t (owns_kept row hlo hg) ne ih
theorem TOwn.grown {w w':World}{lo:Nat}{bad:Option Nat}{t:RchM}(h:TOwn w lo bad t)(hg:w.grownBy w' bad):TOwn w' lo bad t:=by
 induction h with
 | mk t row ne _ ih=>
  refine .mk t (row.kept hg ?_) ne ih
  cases hb:(Value.slice t.ka t.kids.length t.kc).ownBlock with
  | none=>exact .inl rfl
  | some g=>exact .inr (ne g hb)
theorem TOwn.base {w:World}{lo lo':Nat}{bad:Option Nat}{t:RchM}(h:TOwn w lo bad t)(hl:lo'≤lo):TOwn w lo' bad t:=by
 induction h with
 | mk t row ne _ ih=>exact .mk t (owns_base row hl) ne ih
theorem TOwn.any {w:World}{lo:Nat}{bad:Option Nat}{t:RchM}(h:TOwn w lo bad t):TOwn w lo none t:=by
 induction h with
 | mk t row _ _ ih=>exact .mk t row (fun g _=>by simp) ih
theorem TOwn.old {w:World}{lo:Nat}{bad bad':Option Nat}{t:RchM}(h:TOwn w lo bad t)(hb:∀ g,bad'=some g→g<lo∨w.heap.size≤g):TOwn w lo bad' t:=by
 induction h with
 | mk t row ne _ ih=>
  refine .mk t row (fun g hg e=>?_) ih
  have h1:=row.lt g hg
  rcases hb g e.symm with h2 | h2<;>omega
inductive TRd (w:World):RchM→Prop
 | mk (t:RchM) (row:Rd w 5 t.ka t.kids.length (t.kids.flatMap RchM.cells)) (kids:∀ k∈t.kids,TRd w k):TRd w t
theorem TRd.row {w:World}{t:RchM}(h:TRd w t):Rd w 5 t.ka t.kids.length (t.kids.flatMap RchM.cells):=by cases h;assumption
theorem TRd.kids {w:World}{t:RchM}(h:TRd w t):∀ k∈t.kids,TRd w k:=by cases h;assumption
theorem TOwn.rd {w:World}{lo:Nat}{bad:Option Nat}{t:RchM}(h:TOwn w lo bad t):TRd w t:=by
 induction h with
 | mk t row _ _ ih=>exact .mk t (owns_rd row) ih
theorem TRd.cell {w:World}{t:RchM}(h:TRd w t)(i:Nat)(k:RchM)(hi:t.kids[i]?=some k):∃ b off,t.ka=some ⟨b,off,none⟩∧∀ (j:Nat)(u:Value),k.cells[j]?=some u→w.cell? ⟨b,off+i*5+j,none⟩=some u:=h.row.elem rch_len i k hi
theorem same_kids {w:World}{t:RchM}(h:TRd w t):∀ u:RchM,TRd w u→t.ka=u.ka→t.kids.length=u.kids.length→t.kids=u.kids:=by
 induction h with
 | mk t row kids ih=>
  intro u hu ha hl
  apply List.ext_getElem hl
  intro i h1 h2
  obtain⟨x,hx⟩:∃ x,t.kids[i]?=some x:=⟨_,List.getElem?_eq_getElem h1⟩
  obtain⟨y,hy⟩:∃ y,u.kids[i]?=some y:=⟨_,List.getElem?_eq_getElem h2⟩
  obtain⟨b,off,e1,c1⟩:=row.elem rch_len i x hx
  obtain⟨b',off',e2,c2⟩:=hu.row.elem rch_len i y hy
  rw[ha,e2] at e1
  injection e1 with e1;injection e1 with eb eo _
  subst eb eo
  have f0:=(c1 0 _ rfl).symm.trans (c2 0 _ rfl)
  have f1:=(c1 1 _ rfl).symm.trans (c2 1 _ rfl)
  have f2:=(c1 2 _ rfl).symm.trans (c2 2 _ rfl)
  have f3:=(c1 3 _ rfl).symm.trans (c2 3 _ rfl)
  have f4:=(c1 4 _ rfl).symm.trans (c2 4 _ rfl)
  simp only[Option.some.injEq,Value.string.injEq,Value.int.injEq,Value.slice.injEq,true_and] at f0 f1 f2 f3 f4
  have hk:=ih x (List.mem_of_getElem? hx) y (hu.kids y (List.mem_of_getElem? hy)) f4.1 f4.2.1
  have:x=y:=by rw[RchM.eta x,RchM.eta y,f0,f1,f3,f4.1,f4.2.2,hk,show x.aop=y.aop by omega]
  rw[List.getElem?_eq_getElem h1] at hx
  rw[List.getElem?_eq_getElem h2] at hy
  injection hx with hx;injection hy with hy
  rw[hx,hy,this]
end
section
open Go.RowKit Go.Deep
theorem rEnd_at (s:ByteArray)(k o:Nat)(h:k<s.size)(d:UInt8)(hd:s[k]=d):rEnd o ((bl s).drop k)=if d==32 then 0 else if d==40 then rEnd (o+1) ((bl s).drop (k+1))+1 else if d==41 then (if o=0 then 0 else rEnd (o-1) ((bl s).drop (k+1))+1) else rEnd o ((bl s).drop (k+1))+1:=by
 rw[drop_cons s k h,hd];rfl
theorem rEnd_none (s:ByteArray)(k o:Nat)(h:¬ k<s.size):rEnd o ((bl s).drop k)=0:=by rw[drop_end s k h];rfl
theorem rdep_partEnd (s:ByteArray)(p:Nat)(w:World)(hp:p≤s.size)(hs:s.size≤4294967280):
  Calls Tryz.prog 180 #[.string s,.int .i64 p] w fun e w'=>e=.returned (.int .i64 ((p+rEnd 0 ((bl s).drop p):Nat):Int))∧w=w':=by
 obtain⟨R,hR⟩:∃ R,p+rEnd 0 ((bl s).drop p)=R:=⟨_,rfl⟩
 rw[hR]
 have HR0:=hid hR
 clear hR
 go_enter Tryz.func180,Tryz.ntmps180
 go_wp2_with fail
 go_loop [1,4,5] (fun i s4 o=>∃ k n:Nat,i=.int .i64 k∧s4=.int .i64 0∧o=.int .i64 n∧k≤s.size∧n≤k∧Hid (k+rEnd n ((bl s).drop k)=R)) (fun i _ _=>s.size-(intOf i).toNat)
 case atStart=>exact⟨p,0,rfl,rfl,rfl,hp,Nat.zero_le _,HR0⟩
 case round=>
  clear HR0
  obtain⟨k,n,rfl,rfl,rfl,hk,hn,HE⟩:=hrel
  by_cases hlt:k<s.size
  ·obtain⟨d,hd⟩:∃ d:UInt8,s[k]=d:=⟨_,rfl⟩
   have ST:=hid (rEnd_at s k n hlt d hd)
   have d0:decide ((k:Int)<(s.size:Int))=true:=decide_eq_true (by omega)
   cases h32:(d==32) with
   | true=>
    have e32:((d.toNat:Int) != 32)=false:=by rw[bne,show((d.toNat:Int)==32)=true from(toNat_beq d 32).trans h32];rfl
    have E:Hid (k=R):=by have h1:=HE.out;rw[ST.out,h32] at h1;exact h1
    clear h32
    go_wp2_with fail
    go_ret
    exact⟨ret_int (by rw[←E.out]),rfl⟩
   | false=>
    have e32:((d.toNat:Int) != 32)=true:=by rw[bne,show((d.toNat:Int)==32)=false from(toNat_beq d 32).trans h32];rfl
    cases h40:(d==40) with
    | true=>
     have e40:((d.toNat:Int)==40)=true:=(toNat_beq d 40).trans h40
     have HN:Hid ((k+1)+rEnd (n+1) ((bl s).drop (k+1))=R):=by have h1:=HE.out;rw[ST.out,h32,h40] at h1;simp at h1;show _=_;omega
     clear h32 h40
     go_wp2_with fail
     go_round
     case rel=>exact⟨k+1,n+1,by go_num,rfl,by go_num,by omega,by omega,HN⟩
     case measure=>simp[intOf];omega
    | false=>
     have e40:((d.toNat:Int)==40)=false:=(toNat_beq d 40).trans h40
     cases h41:(d==41) with
     | true=>
      have e41:((d.toNat:Int)==41)=true:=(toNat_beq d 41).trans h41
      by_cases n0:n=0
      ·have E:Hid (k=R):=by have h1:=HE.out;rw[ST.out,h32,h40,h41,if_neg (by decide),if_neg (by decide),if_pos rfl,if_pos n0] at h1;exact h1
       subst n0
       clear h32 h40 h41
       go_wp2_with fail
       go_ret
       exact⟨ret_int (by rw[←E.out]),rfl⟩
      ·have HN:Hid ((k+1)+rEnd (n-1) ((bl s).drop (k+1))=R):=by have h1:=HE.out;rw[ST.out,h32,h40,h41,if_neg (by decide),if_neg (by decide),if_pos rfl,if_neg n0] at h1;show _=_;omega
       have en:((n:Int)==0)=false:=by simp;omega
       clear h32 h40 h41
       go_wp2_with fail
       go_round
       case rel=>exact⟨k+1,n-1,by go_num,rfl,by congr 1;omega,by omega,by omega,HN⟩
       case measure=>simp[intOf];omega
     | false=>
      have e41:((d.toNat:Int)==41)=false:=(toNat_beq d 41).trans h41
      have HN:Hid ((k+1)+rEnd n ((bl s).drop (k+1))=R):=by have h1:=HE.out;rw[ST.out,h32,h40,h41,if_neg (by decide),if_neg (by decide),if_neg (by decide)] at h1;show _=_;omega
      clear h32 h40 h41
      go_wp2_with fail
      go_round
      case rel=>exact⟨k+1,n,by go_num,rfl,rfl,by omega,by omega,HN⟩
      case measure=>simp[intOf];omega
  ·have d0:decide ((k:Int)<(s.size:Int))=false:=decide_eq_false (by omega)
   have E:Hid (k=R):=by have h1:=HE.out;rw[rEnd_none s k n hlt] at h1;exact h1
   go_wp2_with fail
   go_ret
   exact⟨ret_int (by rw[←E.out]),rfl⟩
end
section
open Go.RowKit Go.Deep
def rToks:Nat→List UInt8→List (List UInt8)
 | 0,_=>[[]]
 | f+1,l=>if skipL l=[] then [[]] else rLook l::rToks f (rNext l)
theorem skip_blank (r:List UInt8):skipL (32::r)=skipL r:=by unfold skipL;rw[runN_cons_yes (by rfl)];rfl
theorem skip_ink {c:UInt8}{r:List UInt8}(h:(c==32)=false):skipL (c::r)=c::r:=by
 unfold skipL;rw[runN_cons_no (show blankB c=false from h)];rfl
theorem rToks_blank (f:Nat)(r:List UInt8):rToks f (32::r)=rToks f r:=by
 cases f with
 | zero=>rfl
 | succ f=>unfold rToks rLook rNext;rw[skip_blank]
theorem rToks_end (f:Nat):rToks (f+1) []=[[]]:=rfl
theorem rToks_at (f:Nat)(s:ByteArray)(k:Nat)(h:k<s.size)(d:UInt8)(hd:s[k]=d)(h32:(d==32)=false):rToks (f+1) ((bl s).drop k)=((bl s).drop k).take (rLen ((bl s).drop k))::rToks f ((bl s).drop (k+rLen ((bl s).drop k))):=by
 have hs:skipL ((bl s).drop k)=(bl s).drop k:=by rw[drop_cons s k h,hd];exact skip_ink h32
 show(if skipL ((bl s).drop k)=[] then [[]] else rLook ((bl s).drop k)::rToks f (rNext ((bl s).drop k)))=_
 rw[if_neg (by rw[hs,drop_cons s k h];simp)]
 unfold rLook rNext
 rw[hs,List.drop_drop]
theorem rLen_at (s:ByteArray)(k:Nat)(h:k<s.size)(d:UInt8)(hd:s[k]=d):rLen ((bl s).drop k)=if brB d then 1 else rEnd 0 ((bl s).drop k):=by
 rw[drop_cons s k h,hd];rfl
theorem rLen_room (s:ByteArray)(k:Nat)(h:k<s.size)(d:UInt8)(hd:s[k]=d)(h32:(d==32)=false):0<rLen ((bl s).drop k)∧k+rLen ((bl s).drop k)≤s.size:=by
 have hs:skipL ((bl s).drop k)=(bl s).drop k:=by rw[drop_cons s k h,hd];exact skip_ink h32
 have h1:=rLen_pos (l:=(bl s).drop k) (by rw[hs,drop_cons s k h];simp)
 rw[hs] at h1
 have h2:=rLen_le ((bl s).drop k)
 rw[List.length_drop,bl_length] at h2
 exact⟨h1,by omega⟩
structure PtM where
 text:ByteArray
 at_:Nat
def PtM.cells (x:PtM):List Value:=[.string x.text,.int .i64 x.at_]
theorem ptm_len (x:PtM):x.cells.length=2:=rfl
theorem info_part:(Tryz.prog.info? 167).map (fun i=>(i.zero,i.size,i.bytes))=some (some (.agg #[.string ⟨#[]⟩,.int .i64 0]),2,24):=by kernel_rfl
structure PtRow (w wr:World) (xs:List PtM) (A:Option Addr) (n c:Nat):Prop where
 len:xs.length=n
 row:wr.ownsRow w.heap.size 167 2 (.slice A n c) n (xs.flatMap PtM.cells)
 bel:Below w.heap.size w wr
theorem PtRow.grow {w wr w2:World}{xs:List PtM}{A A1:Option Addr}{n c c1:Nat}{o:Obj}{x:PtM}(h:PtRow w wr xs A n c)
  (hr:w2.ownsRow w.heap.size 167 2 (.slice A1 (n+1) c1) (n+1) (xs.flatMap PtM.cells++x.cells))
  (hg:(wr.alloc o).grownBy w2 (Value.slice A n c).ownBlock):PtRow w w2 (xs++[x]) A1 (n+1) c1:=by
 refine⟨by simp[h.len],by rw[List.flatMap_append];simpa using hr,?_⟩
 exact(h.bel.alloc h.bel.size o).grown hg (by have:=h.bel.size;simp;omega) (fun j hj=>by have:=(h.row.lt j hj).1;omega)
theorem reads_pt (w:World)(t:TypeId)(x y:Value):Reads (w.alloc (.cells #[x,y] t)) (w.heap.size+1) 2 (some ⟨w.heap.size,0,none⟩) 1 [x,y]:=by
 refine⟨rfl,fun _=>⟨_,rfl,by simp,fun j u hu=>?_⟩⟩
 match j,hu with
 | 0,hu=>simp at hu;subst hu;simp[Addr.add]
 | 1,hu=>simp at hu;subst hu;simp[Addr.add]
 | j+2,hu=>simp at hu
def PtsPost (s:ByteArray)(w:World)(e:Ending)(w':World):Prop:=
 ∃ (A:Option Addr) (n c:Nat) (xs:List PtM),e=.returned (.slice A n c)∧PtRow w w' xs A n c∧n≤s.size+1∧xs.map (fun x=>bl x.text)=rToks (s.size+1) (bl s)∧∀ x∈xs,x.text.size≤s.size
theorem rdep_parts (s:ByteArray)(w:World)(hs:s.size≤4294967280):
  Calls Tryz.prog 127 #[.string s] w (PtsPost s w):=by
 obtain⟨i0,hi0,hz0,hz1,hz2⟩:=info_parts info_part
 go_enter Tryz.func127,Tryz.ntmps127
 go_wp2_with fail
 go_loopw [3,4] (fun l i wr=>∃ (k f n c:Nat) (A:Option Addr) (xs:List PtM),l=.slice A n c∧i=.int .i64 k∧k≤s.size∧n≤k∧Hid (PtRow w wr xs A n c)∧Hid (xs.map (fun x=>bl x.text)++rToks (f+1) ((bl s).drop k)=rToks (s.size+1) (bl s))∧Hid (s.size-k≤f)∧Hid (∀ x∈xs,x.text.size≤s.size)) (fun _ i _=>s.size-(intOf i).toNat)
 case atStart=>exact⟨0,s.size,0,0,none,[],rfl,rfl,Nat.zero_le _,lr,⟨rfl,World.ownsRow_nil _ _ _ _,Below.refl _ _⟩,rfl,lr,by simp[Hid]⟩
 case round=>
  obtain⟨k,f,n,c,A,xs,rfl,rfl,hk,hn,HR,HT,HF,HZ⟩:=hrel
  by_cases hlt:k<s.size
  ·obtain⟨d,hd⟩:∃ d:UInt8,s[k]=d:=⟨_,rfl⟩
   cases h32:(d==32) with
   | true=>
    have e32:((d.toNat:Int)==32)=true:=(toNat_beq d 32).trans h32
    have HT2:Hid (xs.map (fun x=>bl x.text)++rToks (f+1) ((bl s).drop (k+1))=rToks (s.size+1) (bl s)):=by
     have h1:=HT.out;rw[drop_cons s k hlt,hd,show d=32 by simpa using h32,rToks_blank] at h1;exact h1
    have HF2:Hid (s.size-(k+1)≤f):=by have:=HF.out;show _≤_;omega
    clear h32
    go_wp2_with fail
    go_roundw
    case rel=>exact⟨k+1,f,n,c,A,xs,rfl,by go_num,by omega,by omega,HR,HT2,HF2,HZ⟩
    case measure=>simp[intOf];omega
   | false=>
    have e32:((d.toNat:Int)==32)=false:=(toNat_beq d 32).trans h32
    obtain⟨hl1,hl2⟩:=rLen_room s k hlt d hd h32
    have TA:=hid (rToks_at (f-1) s k hlt d hd h32)
    have TB:=hid (rToks_at f s k hlt d hd h32)
    have LA:=hid (rLen_at s k hlt d hd)
    obtain⟨m,hm⟩:∃ m,k+rLen ((bl s).drop k)=m:=⟨_,rfl⟩
    have HM:=hid hm
    rw[hm] at TA TB hl2
    have hkm:k<m:=by omega
    clear hm hl1
    obtain⟨b1,hb1⟩:∃ b1,((d.toNat:Int) != 40)=b1:=⟨_,rfl⟩
    obtain⟨b2,hb2⟩:∃ b2,((d.toNat:Int) != 41)=b2:=⟨_,rfl⟩
    have HBR:Hid (brB d=!(b1&&b2)):=by
     show _=_;rw[←hb1,←hb2,bne,bne,show((d.toNat:Int)==40)=(d==40) from toNat_beq d 40,show((d.toNat:Int)==41)=(d==41) from toNat_beq d 41];unfold brB;simp
    obtain⟨bp,hbp⟩:∃ bp,(b1&&b2)=bp:=⟨_,rfl⟩
    have HBP:=hid hbp
    clear hbp
    go_upto_region 7 with(fail)
    go_cut [27] (fun v wx=>v=.bool bp∧wr=wx)
    case first=>
     cases b1 with
     | false=>
      have E:Hid (bp=false):=HBP.out.symm
      go_wp2_with fail
      go_meet
      exact⟨by rw[E.out],rfl⟩
     | true=>
      have E:Hid (bp=b2):=HBP.out.symm
      go_wp2_with fail
      go_meet
      exact⟨by rw[E.out],rfl⟩
    case rest=>
    obtain⟨rfl,rfl⟩:=hcut
    clear hb1 hb2
    go_upto_if 27 with(fail)
    go_cut [5] (fun v wx=>v=.int .i64 m∧wr=wx)
    case first=>
     have hPE:=rdep_partEnd s k wr (by omega) hs
     cases bp with
     | false=>
      have E:Hid (m=k+1):=by have h1:=HM.out;rw[LA.out,HBR.out,HBP.out] at h1;exact h1.symm
      go_wp2_with fail
      go_meet
      exact⟨by rw[E.out];rfl,rfl⟩
     | true=>
      have E:k+rEnd 0 ((bl s).drop k)=m:=by have h1:=HM.out;rw[LA.out,HBR.out,HBP.out] at h1;exact h1
      rw[E] at hPE
      clear E
      go_wp2_with fail
      refine hPE.mono ?_;rintro e w' ⟨rfl,rfl⟩
      go_wp2_with fail
      go_meet
      exact⟨rfl,rfl⟩
    case rest=>
    obtain⟨rfl,rfl⟩:=hcut
    clear HBR LA h32
    obtain⟨Y,hY⟩:∃ Y,s.extract k m=Y:=⟨_,rfl⟩
    have HYB:Hid (bl Y=((bl s).drop k).take (rLen ((bl s).drop k))):=by show _=_;rw[←hY,bl_extract];congr 1;have:=HM.out;omega
    have HYZ:Hid (Y.size≤s.size):=by show _≤_;rw[←bl_length,HYB.out,List.length_take,List.length_drop,bl_length];omega
    have HT2:Hid ((xs++[(⟨Y,k⟩:PtM)]).map (fun x=>bl x.text)++rToks (f-1+1) ((bl s).drop m)=rToks (s.size+1) (bl s)):=by
     have h1:=HT.out;have hf:=HF.out
     have ef:f-1+1=f:=by omega
     have h2:=TA.out
     rw[ef] at h2
     have h3:rToks (f+1) ((bl s).drop k)=((bl s).drop k).take (rLen ((bl s).drop k))::rToks f ((bl s).drop m):=TB.out
     show _=_
     rw[ef,←h1,h3,List.map_append,List.append_assoc];simp[HYB.out]
    have HF2:Hid (s.size-m≤f-1):=by have:=HF.out;show _≤_;omega
    have HZ2:Hid (∀ x∈xs++[(⟨Y,k⟩:PtM)],x.text.size≤s.size):=by
     intro x hx
     rcases List.mem_append.1 hx with hx | hx
     ·exact HZ.out x hx
     ·obtain rfl:=List.mem_singleton.1 hx;exact HYZ.out
    have hnn:n≤4294967280:=by omega
    have hkm1:(k:Int)≤(m:Int):=by omega
    have hkm2:(m:Int)≤(s.size:Int):=by omega
    go_wp2_with (at_builtin;refine wpList_append_any _ rfl _ _ _ rfl w.heap.size 167 i0 _ 2 24 Tryz.underlying161 hi0 hz0 hz1 hz2 rfl (by omega) (.slice A n c) n _ rfl (HR.out.row.alloc _) (wr.heap.size+1) (some ⟨wr.heap.size,0,none⟩) 1 1 [.string Y,.int .i64 k] rfl (reads_pt wr _ _ _) (by simp[Value.oneCell']) (by simp only[maxLen];omega) (by omega) (by simp;have:=HR.out.bel.size;omega) ?_;intro v1 w3 o1 g1 a1)
    obtain⟨A3,c3,rfl⟩:=owns_form o1
    have R3:=hid (HR.out.grow (x:=⟨Y,k⟩) o1 g1)
    clear o1 g1 a1
    go_wp2_with fail
    go_roundw
    case rel=>exact⟨m,f-1,n+1,c3,A3,xs++[⟨Y,k⟩],rfl,rfl,hl2,by omega,R3,HT2,HF2,HZ2⟩
    case measure=>simp[intOf];omega
  ·have HT2:Hid ((xs++[(⟨⟨#[]⟩,s.size⟩:PtM)]).map (fun x=>bl x.text)=rToks (s.size+1) (bl s)):=by
    have h1:=HT.out;rw[drop_end s k hlt,rToks_end] at h1;show _=_;rw[←h1,List.map_append];rfl
   have HZ2:Hid (∀ x∈xs++[(⟨⟨#[]⟩,s.size⟩:PtM)],x.text.size≤s.size):=by
    intro x hx
    rcases List.mem_append.1 hx with hx | hx
    ·exact HZ.out x hx
    ·obtain rfl:=List.mem_singleton.1 hx;exact Nat.zero_le _
   have hnn:n≤4294967280:=by omega
   go_wp2_with (at_builtin;refine wpList_append_any _ rfl _ _ _ rfl w.heap.size 167 i0 _ 2 24 Tryz.underlying161 hi0 hz0 hz1 hz2 rfl (by omega) (.slice A n c) n _ rfl (HR.out.row.alloc _) (wr.heap.size+1) (some ⟨wr.heap.size,0,none⟩) 1 1 [.string ⟨#[]⟩,.int .i64 s.size] rfl (reads_pt wr _ _ _) (by simp[Value.oneCell']) (by simp only[maxLen];omega) (by omega) (by simp;have:=HR.out.bel.size;omega) ?_;intro v1 w3 o1 g1 a1)
   obtain⟨A3,c3,rfl⟩:=owns_form o1
   have R3:=hid (HR.out.grow (x:=⟨⟨#[]⟩,s.size⟩) o1 g1)
   clear o1 g1 a1
   go_wp2_with fail
   go_ret
   exact⟨A3,n+1,c3,xs++[⟨⟨#[]⟩,s.size⟩],rfl,R3.out,by omega,HT2.out,HZ2.out⟩
end
section
open Go.RowKit
def rCloses (op:List UInt8)(n:Nat):Bool:=decide ((op=wAnd∨op=wOr)∧2≤n∨(op=wIf∨op=wUnless)∧(n=2∨n=3)∨(op=wWith∨op=wWithout)∧n=2)
def GOp (n:Nat)(op:List UInt8):Prop:=(n=0∧op=[])∨(1≤n∧((op=wAnd∨op=wOr)∨(op=wIf∨op=wUnless)∧n≤2∨(op=wWith∨op=wWithout)∧n=1))
theorem GOp.start:GOp 0 []:=.inl ⟨rfl,rfl⟩
theorem rWordB_iff {p:List UInt8}:rWordB p=true↔p=wAnd∨p=wOr∨p=wIf∨p=wUnless∨p=wWith∨p=wWithout:=by unfold rWordB;simp
theorem GOp.close {n:Nat}{op:List UInt8}(h:GOp n op):rCloses op (n+1)=decide (n≠0):=by
 unfold rCloses
 rcases h with⟨rfl,rfl⟩ | ⟨h1,h2⟩
 ·simp[wAnd,wOr,wIf,wUnless,wWith,wWithout]
 ·rw[decide_eq_true (show n≠0 by omega)]
  apply decide_eq_true
  rcases h2 with h2 | ⟨h2,h3⟩ | ⟨h2,h3⟩
  ·exact .inl ⟨h2,by omega⟩
  ·exact .inr (.inl ⟨h2,by omega⟩)
  ·exact .inr (.inr ⟨h2,by omega⟩)
theorem GOp.next {n:Nat}{op p:List UInt8}(h:GOp n op)(hf:rFollows op (n+1) p=true):GOp (n+1) (if n=0 then p else op):=by
 unfold rFollows at hf
 rcases h with⟨rfl,rfl⟩ | ⟨h1,h2⟩
 ·rw[if_pos rfl] at hf
  rw[if_pos rfl]
  refine .inr ⟨by omega,?_⟩
  rcases rWordB_iff.1 hf with h | h | h | h | h | h
  ·exact .inl (.inl h)
  ·exact .inl (.inr h)
  ·exact .inr (.inl ⟨.inl h,by omega⟩)
  ·exact .inr (.inl ⟨.inr h,by omega⟩)
  ·exact .inr (.inr ⟨.inl h,rfl⟩)
  ·exact .inr (.inr ⟨.inr h,rfl⟩)
 ·rw[if_neg (by omega)] at hf
  rw[if_neg (by omega)]
  refine .inr ⟨by omega,?_⟩
  rcases of_decide_eq_true hf with⟨h,_⟩ | ⟨h,h3,_⟩
  ·exact .inl h
  ·exact .inr (.inl ⟨h,by omega⟩)
theorem GOp.word {n:Nat}{op:List UInt8}(h:GOp n op)(hn:n≠0):rWordB op=true:=by
 rcases h with⟨rfl,rfl⟩ | ⟨_,h2⟩
 ·exact absurd rfl hn
 ·rw[rWordB_iff]
  rcases h2 with(h2 | h2) | ⟨h2 | h2,_⟩ | ⟨h2 | h2,_⟩
  ·exact .inl h2
  ·exact .inr (.inl h2)
  ·exact .inr (.inr (.inl h2))
  ·exact .inr (.inr (.inr (.inl h2)))
  ·exact .inr (.inr (.inr (.inr (.inl h2))))
  ·exact .inr (.inr (.inr (.inr (.inr h2))))
theorem GOp.nil {n:Nat}{op:List UInt8}(h:GOp n op):op=[]↔n=0:=by
 constructor
 ·intro e;subst e
  by_cases hn:n=0
  ·exact hn
  ·have:=h.word hn;rw[rWordB_iff] at this;revert this;simp[wAnd,wOr,wIf,wUnless,wWith,wWithout]
 ·rintro rfl
  rcases h with⟨_,h⟩ | ⟨h,_⟩
  ·exact h
  ·omega
theorem closes_two {op:List UInt8}{n:Nat}(h:rCloses op n=true):2≤n:=by
 rcases of_decide_eq_true h with⟨_,h⟩ | ⟨_,h⟩ | ⟨_,h⟩<;>omega
theorem word_ne {op:List UInt8}(h:rWordB op=true):op≠[]∧op.length≤7:=by
 rcases rWordB_iff.1 h with h | h | h | h | h | h<;>rw[h]<;>simp[wAnd,wOr,wIf,wUnless,wWith,wWithout]
inductive TGood:RchM→Prop
 | atom (nm:ByteArray) (aop:Nat) (ver:ByteArray) (hn:rnameB (bl nm)=true) (ho:aop≤5) (hv0:aop=0→ver.size=0) (hv:0<aop→verE 2 ver=0):TGood (.mk ⟨#[]⟩ nm aop ver none 0 [])
 | node (op:ByteArray) (ka:Option Addr) (kc:Nat) (kids:List RchM) (ho:rWordB (bl op)=true) (hc:rCloses (bl op) kids.length=true) (hk:∀ k∈kids,TGood k):TGood (.mk op ⟨#[]⟩ 0 ⟨#[]⟩ ka kc kids)
theorem ver_size {s:ByteArray}{f:Int}(h:verE f s=0):s.size≤64:=by
 unfold verE at h
 split at h
 ·simp at h
 ·split at h
  ·simp at h
  ·omega
theorem rname_len {s:ByteArray}(h:rnameB (bl s)=true):1≤s.size∧s.size≤64:=by
 by_cases hz:1≤s.size∧s.size≤64
 ·exact hz
 ·rw[rname_size s hz] at h;cases h
theorem sgR_len:∀ n:Nat,(sgR n).length≤2
 | 0=>by decide
 | 1=>by decide
 | 2=>by decide
 | 3=>by decide
 | 4=>by decide
 | 5=>by decide
 | _+6=>by simp[sgR]
theorem rWd_len {op:List UInt8}{i:Nat}(h:op.length≤7):(rWd op i).length≤7:=by
 unfold rWd
 split
 ·decide
 ·exact h
theorem rTail_len (op:List UInt8)(ho:op.length≤7):∀ (ks:List RchM)(i:Nat),(∀ k∈ks,(rText k.pl).length+60≤200*k.cnt)→(rTail op i (plL ks)).length+51*ks.length≤200*cntL ks
 | [],i,_=>by simp[plL,rTail,cntL]
 | k::r,i,h=>by
  have h1:=h k (by simp)
  have h2:=rTail_len op ho r (i+1) (fun x hx=>h x (by simp[hx]))
  have h3:=rWd_len (i:=i) ho
  simp only[plL,rTail,cntL,List.length_append,List.length_cons]
  split
  ·simp;omega
  ·simp;omega
theorem pl_atom (op nm:ByteArray)(aop:Nat)(ver:ByteArray)(ka:Option Addr)(kc:Nat)(kids:List RchM)(h:bl op=[]):(RchM.mk op nm aop ver ka kc kids).pl=.atom (bl nm) aop (bl ver):=by simp[RchM.pl,h]
theorem pl_node (op nm:ByteArray)(aop:Nat)(ver:ByteArray)(ka:Option Addr)(kc:Nat)(kids:List RchM)(h:bl op≠[]):(RchM.mk op nm aop ver ka kc kids).pl=.node (bl op) (plL kids):=by simp[RchM.pl,h]
theorem TGood.text {t:RchM}(h:TGood t):(rText t.pl).length+60≤200*t.cnt:=by
 induction h with
 | atom nm aop ver hn ho hv0 hv=>
  rw[pl_atom _ _ _ _ _ _ _ rfl]
  have h1:=rname_len hn
  have h2:ver.size≤64:=by
   by_cases h:aop=0
   ·have:=hv0 h;omega
   ·exact ver_size (hv (by omega))
  have h3:=sgR_len aop
  simp only[rText,RchM.cnt]
  split
  ·rw[bl_length];omega
  ·simp[bl_length];omega
 | node op ka kc kids ho hc hk ih=>
  rw[pl_node _ _ _ _ _ _ _ (word_ne ho).1]
  have h1:=rTail_len (bl op) (word_ne ho).2 kids 0 ih
  have h2:=closes_two hc
  rw[cnt_node (t:=.mk op ⟨#[]⟩ 0 ⟨#[]⟩ ka kc kids) (by simp[RchM.kids];intro h;rw[h] at h2;simp at h2)]
  simp only[rText,RchM.kids,List.length_append,List.length_cons,List.length_nil]
  omega
def zeroR:RchM:=.mk ⟨#[]⟩ ⟨#[]⟩ 0 ⟨#[]⟩ none 0 []
theorem rNext_le (l:List UInt8):(rNext l).length≤l.length:=by
 have:=skipL_le l;unfold rNext;rw[List.length_drop];omega
theorem rLook_next {l:List UInt8}(h:rLook l≠[]):(rNext l).length<l.length:=rNext_lt (fun e=>h (rLook_nil.2 e))
theorem rToks_cons (f:Nat)(l:List UInt8):∃ r,rToks (f+1) l=rLook l::r∧(rLook l≠[]→r=rToks f (rNext l)):=by
 by_cases h:skipL l=[]
 ·refine⟨[],?_,fun h2=>absurd (rLook_nil.2 h) h2⟩
  show(if skipL l=[] then [[]] else rLook l::rToks f (rNext l))=_
  rw[if_pos h,rLook_nil.2 h]
 ·refine⟨rToks f (rNext l),?_,fun _=>rfl⟩
  show(if skipL l=[] then [[]] else rLook l::rToks f (rNext l))=_
  rw[if_neg h]
end
section
open Go.RowKit Go.Deep
theorem idx6 (k:Nat)(hk:k<6)(x:Nat→ByteArray)(w:World):(Instr.index 208 (.agg #[.string (x 0),.string (x 1),.string (x 2),.string (x 3),.string (x 4),.string (x 5)]) (.int .i64 k)).run Tryz.prog w=.ok (.string (x k)) w:=by
 rcases(by omega:k=0∨k=1∨k=2∨k=3∨k=4∨k=5) with rfl | rfl | rfl | rfl | rfl | rfl<;>kernel_rfl
def sgUp (x:Nat→ByteArray)(l:List UInt8):Nat→Prop:=fun k=>∀ j,j<k→bl (x j)≠l
theorem rSign_at (k:Nat)(hk:k<6):bl (rSign k)=sgR k:=by
 rcases(by omega:k=0∨k=1∨k=2∨k=3∨k=4∨k=5) with rfl | rfl | rfl | rfl | rfl | rfl<;>rfl
theorem rOp_found {l:List UInt8}{k:Nat}(hk:k<6)(h:bl (rSign k)=l):rOp l=k:=by
 subst h
 rcases(by omega:k=0∨k=1∨k=2∨k=3∨k=4∨k=5) with rfl | rfl | rfl | rfl | rfl | rfl<;>rfl
theorem rOp_none {l:List UInt8}(h:sgUp rSign l 6):rOp l=0:=by
 have h1:=h 1 (by omega);have h2:=h 2 (by omega);have h3:=h 3 (by omega);have h4:=h 4 (by omega);have h5:=h 5 (by omega)
 rw[rSign_at _ (by omega)] at h1 h2 h3 h4 h5
 unfold rOp
 rw[if_neg (fun e=>h1 e.symm),if_neg (fun e=>h2 e.symm),if_neg (fun e=>h3 e.symm),if_neg (fun e=>h4 e.symm),if_neg (fun e=>h5 e.symm)]
theorem sgUp_step {x:Nat→ByteArray}{l:List UInt8}{k:Nat}(h:sgUp x l k)(hn:bl (x k)≠l):sgUp x l (k+1):=by
 intro j hj
 rcases(by omega:j<k∨j=k) with h1 | rfl
 ·exact h j h1
 ·exact hn
theorem rWord_found {l:List UInt8}{k:Nat}(hk:k<6)(h:bl (rWord k)=l):rWordB l=true:=by
 subst h
 rcases(by omega:k=0∨k=1∨k=2∨k=3∨k=4∨k=5) with rfl | rfl | rfl | rfl | rfl | rfl<;>rfl
theorem rWord_none {l:List UInt8}(h:sgUp rWord l 6):rWordB l=false:=by
 have h0:=h 0 (by omega);have h1:=h 1 (by omega);have h2:=h 2 (by omega);have h3:=h 3 (by omega);have h4:=h 4 (by omega);have h5:=h 5 (by omega)
 apply decide_eq_false
 rintro(e | e | e | e | e | e)
 ·exact h0 e.symm
 ·exact h1 e.symm
 ·exact h2 e.symm
 ·exact h3 e.symm
 ·exact h4 e.symm
 ·exact h5 e.symm
theorem rdep_relation (s:ByteArray)(w:World)(hG:Gl w):
  Calls Tryz.prog 234 #[.string s] w fun e w'=>e=.returned (.int .i64 (rOp (bl s)))∧w=w':=by
 have g0:=hG.rsg 0 (by omega)
 have g1:=hG.rsg 1 (by omega)
 have g2:=hG.rsg 2 (by omega)
 have g3:=hG.rsg 3 (by omega)
 have g4:=hG.rsg 4 (by omega)
 have g5:=hG.rsg 5 (by omega)
 clear hG
 go_enter Tryz.func234,Tryz.ntmps234
 go_wp2_with fail
 clear g0 g1 g2 g3 g4 g5
 go_loop [6] (fun i=>∃ k:Nat,k≤6∧i=.int .i64 k∧Hid (sgUp rSign (bl s) k)) (fun i=>6-(intOf i).toNat)
 case atStart=>exact⟨0,by omega,rfl,fun j hj=>by omega⟩
 case round=>
  obtain⟨k,hk,rfl,HR⟩:=hrel
  by_cases hlt:k<6
  ·have hix:=fun W=>idx6 k hlt rSign W
   cases hq:((rSign k).toList==s.toList) with
   | true=>
    have E:Hid (rOp (bl s)=k):=rOp_found hlt (by rw[beq_bl] at hq;rw[of_decide_eq_true hq])
    go_wp2_with fail
    go_ret
    exact⟨ret_int (by rw[E.out]),rfl⟩
   | false=>
    have HN:=hid (sgUp_step HR.out (k:=k) (by rw[beq_bl] at hq;exact fun e=>of_decide_eq_false hq (bl_inj e)))
    go_wp2_with fail
    go_round
    case rel=>exact⟨k+1,by omega,by go_num,HN⟩
    case measure=>simp[intOf];omega
  ·have E:Hid (rOp (bl s)=0):=rOp_none (by have:=HR.out;rwa [show k=6 by omega] at this)
   go_wp2_with fail
   go_ret
   exact⟨ret_int (by rw[E.out];rfl),rfl⟩
theorem rdep_known (s:ByteArray)(w:World)(hG:Gl w):
  Calls Tryz.prog 236 #[.string s] w fun e w'=>e=.returned (.bool (rWordB (bl s)))∧w=w':=by
 have g0:=hG.rwd 0 (by omega)
 have g1:=hG.rwd 1 (by omega)
 have g2:=hG.rwd 2 (by omega)
 have g3:=hG.rwd 3 (by omega)
 have g4:=hG.rwd 4 (by omega)
 have g5:=hG.rwd 5 (by omega)
 clear hG
 go_enter Tryz.func236,Tryz.ntmps236
 go_wp2_with fail
 clear g0 g1 g2 g3 g4 g5
 go_loop [6] (fun i=>∃ k:Nat,k≤6∧i=.int .i64 k∧Hid (sgUp rWord (bl s) k)) (fun i=>6-(intOf i).toNat)
 case atStart=>exact⟨0,by omega,rfl,fun j hj=>by omega⟩
 case round=>
  obtain⟨k,hk,rfl,HR⟩:=hrel
  by_cases hlt:k<6
  ·have hix:=fun W=>idx6 k hlt rWord W
   cases hq:((rWord k).toList==s.toList) with
   | true=>
    have E:Hid (rWordB (bl s)=true):=rWord_found hlt (by rw[beq_bl] at hq;rw[of_decide_eq_true hq])
    go_wp2_with fail
    go_ret
    exact⟨ret_bool E.out.symm,rfl⟩
   | false=>
    have HN:=hid (sgUp_step HR.out (k:=k) (by rw[beq_bl] at hq;exact fun e=>of_decide_eq_false hq (bl_inj e)))
    go_wp2_with fail
    go_round
    case rel=>exact⟨k+1,by omega,by go_num,HN⟩
    case measure=>simp[intOf];omega
  ·have E:Hid (rWordB (bl s)=false):=rWord_none (by have:=HR.out;rwa [show k=6 by omega] at this)
   go_wp2_with fail
   go_ret
   exact⟨ret_bool E.out.symm,rfl⟩
end
section
open Go.RowKit Go.Deep
theorem closes_And (n:Nat):rCloses wAnd n=decide (2≤n):=by simp[rCloses,wAnd,wOr,wIf,wUnless,wWith,wWithout]
theorem closes_Or (n:Nat):rCloses wOr n=decide (2≤n):=by simp[rCloses,wAnd,wOr,wIf,wUnless,wWith,wWithout]
theorem closes_If (n:Nat):rCloses wIf n=(decide (n=2)||decide (n=3)):=by simp[rCloses,wAnd,wOr,wIf,wUnless,wWith,wWithout]
theorem closes_Unless (n:Nat):rCloses wUnless n=(decide (n=2)||decide (n=3)):=by simp[rCloses,wAnd,wOr,wIf,wUnless,wWith,wWithout]
theorem closes_With (n:Nat):rCloses wWith n=decide (n=2):=by simp[rCloses,wAnd,wOr,wIf,wUnless,wWith,wWithout]
theorem closes_Without (n:Nat):rCloses wWithout n=decide (n=2):=by simp[rCloses,wAnd,wOr,wIf,wUnless,wWith,wWithout]
theorem closes_none {op:List UInt8}(h:rWordB op=false)(n:Nat):rCloses op n=false:=by
 unfold rCloses;apply decide_eq_false
 have h1:=of_decide_eq_false h
 rintro(⟨h2 | h2,_⟩ | ⟨h2 | h2,_⟩ | ⟨h2 | h2,_⟩)<;>exact h1 (by simp[h2])
theorem word_cases (op:List UInt8):op=wAnd∨op=wOr∨op=wIf∨op=wUnless∨op=wWith∨op=wWithout∨rWordB op=false:=by
 cases h:rWordB op with
 | false=>simp
 | true=>rcases rWordB_iff.1 h with h | h | h | h | h | h<;>simp[h]
theorem not_word {s:ByteArray}(h:rWordB (bl s)=false):(s.toList == [97,110,100])=false∧(s.toList == [111,114])=false∧(s.toList == [105,102])=false∧(s.toList == [117,110,108,101,115,115])=false∧(s.toList == [119,105,116,104])=false∧(s.toList == [119,105,116,104,111,117,116])=false:=by
 rw[bl_toList]
 have h1:=of_decide_eq_false h
 refine⟨?_,?_,?_,?_,?_,?_⟩<;>rw[beq_eq_false_iff_ne]<;>intro e<;>apply h1<;>rw[e]<;>simp[wAnd,wOr,wIf,wUnless,wWith,wWithout]
theorem rdep_closes_And (op:ByteArray)(n:Nat)(w:World)(h:bl op=wAnd):
  Calls Tryz.prog 232 #[.string op,.int .i64 n] w fun e w'=>e=.returned (.bool (rCloses (bl op) n))∧w=w':=by
 have E:op.toList=[97,110,100]:=by rw[bl_toList];exact h
 have R:Hid (rCloses (bl op) n=decide (2≤n)):=by show _=_;rw[h];exact closes_And n
 clear h
 go_enter Tryz.func232,Tryz.ntmps232
 go_wp2_with fail
 go_ret
 exact⟨ret_bool (by rw[R.out,Bool.eq_iff_iff];simp;omega),rfl⟩
theorem rdep_closes_Or (op:ByteArray)(n:Nat)(w:World)(h:bl op=wOr):
  Calls Tryz.prog 232 #[.string op,.int .i64 n] w fun e w'=>e=.returned (.bool (rCloses (bl op) n))∧w=w':=by
 have E:op.toList=[111,114]:=by rw[bl_toList];exact h
 have R:Hid (rCloses (bl op) n=decide (2≤n)):=by show _=_;rw[h];exact closes_Or n
 clear h
 go_enter Tryz.func232,Tryz.ntmps232
 go_wp2_with fail
 go_ret
 exact⟨ret_bool (by rw[R.out,Bool.eq_iff_iff];simp;omega),rfl⟩
theorem rdep_closes_If (op:ByteArray)(n:Nat)(w:World)(h:bl op=wIf):
  Calls Tryz.prog 232 #[.string op,.int .i64 n] w fun e w'=>e=.returned (.bool (rCloses (bl op) n))∧w=w':=by
 have E:op.toList=[105,102]:=by rw[bl_toList];exact h
 have R:Hid (rCloses (bl op) n=(decide (n=2)||decide (n=3))):=by show _=_;rw[h];exact closes_If n
 clear h
 by_cases n2:n=2
 ·subst n2
  go_enter Tryz.func232,Tryz.ntmps232
  go_wp2_with fail
  go_ret
  exact⟨ret_bool (by rw[R.out];rfl),rfl⟩
 ·have q2:((n:Int)==2)=false:=by simp;omega
  by_cases n3:n=3
  ·subst n3
   go_enter Tryz.func232,Tryz.ntmps232
   go_wp2_with fail
   go_ret
   exact⟨ret_bool (by rw[R.out];rfl),rfl⟩
  ·have q3:((n:Int)==3)=false:=by simp;omega
   go_enter Tryz.func232,Tryz.ntmps232
   go_wp2_with fail
   go_ret
   exact⟨ret_bool (by rw[R.out];simp[n2,n3]),rfl⟩
theorem rdep_closes_Unless (op:ByteArray)(n:Nat)(w:World)(h:bl op=wUnless):
  Calls Tryz.prog 232 #[.string op,.int .i64 n] w fun e w'=>e=.returned (.bool (rCloses (bl op) n))∧w=w':=by
 have E:op.toList=[117,110,108,101,115,115]:=by rw[bl_toList];exact h
 have R:Hid (rCloses (bl op) n=(decide (n=2)||decide (n=3))):=by show _=_;rw[h];exact closes_Unless n
 clear h
 by_cases n2:n=2
 ·subst n2
  go_enter Tryz.func232,Tryz.ntmps232
  go_wp2_with fail
  go_ret
  exact⟨ret_bool (by rw[R.out];rfl),rfl⟩
 ·have q2:((n:Int)==2)=false:=by simp;omega
  by_cases n3:n=3
  ·subst n3
   go_enter Tryz.func232,Tryz.ntmps232
   go_wp2_with fail
   go_ret
   exact⟨ret_bool (by rw[R.out];rfl),rfl⟩
  ·have q3:((n:Int)==3)=false:=by simp;omega
   go_enter Tryz.func232,Tryz.ntmps232
   go_wp2_with fail
   go_ret
   exact⟨ret_bool (by rw[R.out];simp[n2,n3]),rfl⟩
theorem rdep_closes_With (op:ByteArray)(n:Nat)(w:World)(h:bl op=wWith):
  Calls Tryz.prog 232 #[.string op,.int .i64 n] w fun e w'=>e=.returned (.bool (rCloses (bl op) n))∧w=w':=by
 have E:op.toList=[119,105,116,104]:=by rw[bl_toList];exact h
 have R:Hid (rCloses (bl op) n=decide (n=2)):=by show _=_;rw[h];exact closes_With n
 clear h
 go_enter Tryz.func232,Tryz.ntmps232
 go_wp2_with fail
 go_ret
 exact⟨ret_bool (by rw[R.out];rw[Bool.eq_iff_iff];simp;omega),rfl⟩
theorem rdep_closes_Without (op:ByteArray)(n:Nat)(w:World)(h:bl op=wWithout):
  Calls Tryz.prog 232 #[.string op,.int .i64 n] w fun e w'=>e=.returned (.bool (rCloses (bl op) n))∧w=w':=by
 have E:op.toList=[119,105,116,104,111,117,116]:=by rw[bl_toList];exact h
 have R:Hid (rCloses (bl op) n=decide (n=2)):=by show _=_;rw[h];exact closes_Without n
 clear h
 go_enter Tryz.func232,Tryz.ntmps232
 go_wp2_with fail
 go_ret
 exact⟨ret_bool (by rw[R.out];rw[Bool.eq_iff_iff];simp;omega),rfl⟩
theorem rdep_closes (op:ByteArray)(n:Nat)(w:World):
  Calls Tryz.prog 232 #[.string op,.int .i64 n] w fun e w'=>e=.returned (.bool (rCloses (bl op) n))∧w=w':=by
 rcases word_cases (bl op) with h | h | h | h | h | h | h
 ·exact rdep_closes_And op n w h
 ·exact rdep_closes_Or op n w h
 ·exact rdep_closes_If op n w h
 ·exact rdep_closes_Unless op n w h
 ·exact rdep_closes_With op n w h
 ·exact rdep_closes_Without op n w h
 ·obtain⟨h1,h2,h3,h4,h5,h6⟩:=not_word h
  have R:Hid (rCloses (bl op) n=false):=closes_none h n
  clear h
  go_enter Tryz.func232,Tryz.ntmps232
  go_wp2_with fail
  go_ret
  exact⟨ret_bool R.out.symm,rfl⟩
theorem follows_And {n:Nat}(hn:n≠1)(p:List UInt8):rFollows wAnd n p=decide (p=wAnd):=by
 unfold rFollows;rw[if_neg hn]
 by_cases hp:p=wAnd
 ·subst hp;simp[wAnd,wOr,wIf,wUnless,wWith,wWithout]
 ·rw[decide_eq_false hp];apply decide_eq_false;rintro(⟨_,h⟩ | ⟨h,_⟩)
  ·exact hp h
  ·revert h;simp[wAnd,wOr,wIf,wUnless]
theorem follows_Or {n:Nat}(hn:n≠1)(p:List UInt8):rFollows wOr n p=decide (p=wOr):=by
 unfold rFollows;rw[if_neg hn]
 by_cases hp:p=wOr
 ·subst hp;simp[wAnd,wOr,wIf,wUnless,wWith,wWithout]
 ·rw[decide_eq_false hp];apply decide_eq_false;rintro(⟨_,h⟩ | ⟨h,_⟩)
  ·exact hp h
  ·revert h;simp[wAnd,wOr,wIf,wUnless]
theorem follows_If {n:Nat}(hn:n≠1)(p:List UInt8):rFollows wIf n p=(decide (n=2)&&decide (p=wElse)):=by
 unfold rFollows;rw[if_neg hn]
 simp[wAnd,wOr,wIf,wUnless,wWith,wWithout]
theorem follows_Unless {n:Nat}(hn:n≠1)(p:List UInt8):rFollows wUnless n p=(decide (n=2)&&decide (p=wElse)):=by
 unfold rFollows;rw[if_neg hn]
 simp[wAnd,wOr,wIf,wUnless,wWith,wWithout]
theorem follows_With {n:Nat}(hn:n≠1)(p:List UInt8):rFollows wWith n p=false:=by
 unfold rFollows;rw[if_neg hn]
 simp[wAnd,wOr,wIf,wUnless,wWith,wWithout]
theorem follows_Without {n:Nat}(hn:n≠1)(p:List UInt8):rFollows wWithout n p=false:=by
 unfold rFollows;rw[if_neg hn]
 simp[wAnd,wOr,wIf,wUnless,wWith,wWithout]
theorem follows_none {op:List UInt8}(h:rWordB op=false){n:Nat}(hn:n≠1)(p:List UInt8):rFollows op n p=false:=by
 unfold rFollows;rw[if_neg hn];apply decide_eq_false
 have h1:=of_decide_eq_false h
 rintro(⟨h2 | h2,_⟩ | ⟨h2 | h2,_⟩)<;>exact h1 (by simp[h2])
theorem rdep_follows_And (op:ByteArray)(n:Nat)(p:ByteArray)(w:World)(h:bl op=wAnd)(hn:n≠1):
  Calls Tryz.prog 233 #[.string op,.int .i64 n,.string p] w fun e w'=>e=.returned (.bool (rFollows (bl op) n (bl p)))∧w=w':=by
 have E:op.toList=[97,110,100]:=by rw[bl_toList];exact h
 have R:Hid (rFollows (bl op) n (bl p)=decide (bl p=wAnd)):=by show _=_;rw[h];exact follows_And hn _
 have q1:((n:Int)==1)=false:=by simp;omega
 clear h
 cases hp:(p.toList==([97,110,100]:List UInt8)) with
 | true=>
  have F:p.toList=[97,110,100]:=by simpa using hp
  have R2:Hid (rFollows (bl op) n (bl p)=true):=by show _=_;rw[R.out,←bl_toList,F];rfl
  clear hp
  go_enter Tryz.func233,Tryz.ntmps233
  go_wp2_with fail
  go_ret
  exact⟨ret_bool R2.out.symm,rfl⟩
 | false=>
  have R2:Hid (rFollows (bl op) n (bl p)=false):=by show _=_;rw[R.out,←bl_toList];exact decide_eq_false (by rw[beq_eq_false_iff_ne] at hp;exact hp)
  go_enter Tryz.func233,Tryz.ntmps233
  go_wp2_with fail
  go_ret
  exact⟨ret_bool R2.out.symm,rfl⟩
theorem rdep_follows_Or (op:ByteArray)(n:Nat)(p:ByteArray)(w:World)(h:bl op=wOr)(hn:n≠1):
  Calls Tryz.prog 233 #[.string op,.int .i64 n,.string p] w fun e w'=>e=.returned (.bool (rFollows (bl op) n (bl p)))∧w=w':=by
 have E:op.toList=[111,114]:=by rw[bl_toList];exact h
 have R:Hid (rFollows (bl op) n (bl p)=decide (bl p=wOr)):=by show _=_;rw[h];exact follows_Or hn _
 have q1:((n:Int)==1)=false:=by simp;omega
 clear h
 cases hp:(p.toList==([111,114]:List UInt8)) with
 | true=>
  have F:p.toList=[111,114]:=by simpa using hp
  have R2:Hid (rFollows (bl op) n (bl p)=true):=by show _=_;rw[R.out,←bl_toList,F];rfl
  clear hp
  go_enter Tryz.func233,Tryz.ntmps233
  go_wp2_with fail
  go_ret
  exact⟨ret_bool R2.out.symm,rfl⟩
 | false=>
  have R2:Hid (rFollows (bl op) n (bl p)=false):=by show _=_;rw[R.out,←bl_toList];exact decide_eq_false (by rw[beq_eq_false_iff_ne] at hp;exact hp)
  go_enter Tryz.func233,Tryz.ntmps233
  go_wp2_with fail
  go_ret
  exact⟨ret_bool R2.out.symm,rfl⟩
theorem rdep_follows_If (op:ByteArray)(n:Nat)(p:ByteArray)(w:World)(h:bl op=wIf)(hn:n≠1):
  Calls Tryz.prog 233 #[.string op,.int .i64 n,.string p] w fun e w'=>e=.returned (.bool (rFollows (bl op) n (bl p)))∧w=w':=by
 have E:op.toList=[105,102]:=by rw[bl_toList];exact h
 have R:Hid (rFollows (bl op) n (bl p)=(decide (n=2)&&decide (bl p=wElse))):=by show _=_;rw[h];exact follows_If hn _
 have q1:((n:Int)==1)=false:=by simp;omega
 clear h
 by_cases n2:n=2
 ·subst n2
  cases hp:(p.toList==([101,108,115,101]:List UInt8)) with
  | true=>
   have F:p.toList=[101,108,115,101]:=by simpa using hp
   have R2:Hid (rFollows (bl op) 2 (bl p)=true):=by show _=_;rw[R.out,←bl_toList,F];rfl
   clear hp
   go_enter Tryz.func233,Tryz.ntmps233
   go_wp2_with fail
   go_ret
   exact⟨ret_bool R2.out.symm,rfl⟩
  | false=>
   have R2:Hid (rFollows (bl op) 2 (bl p)=false):=by show _=_;rw[R.out,←bl_toList];simp only[decide_true,Bool.true_and];exact decide_eq_false (by rw[beq_eq_false_iff_ne] at hp;exact hp)
   go_enter Tryz.func233,Tryz.ntmps233
   go_wp2_with fail
   go_ret
   exact⟨ret_bool R2.out.symm,rfl⟩
 ·have q2:((n:Int)==2)=false:=by simp;omega
  have R2:Hid (rFollows (bl op) n (bl p)=false):=by show _=_;rw[R.out,decide_eq_false n2];rfl
  go_enter Tryz.func233,Tryz.ntmps233
  go_wp2_with fail
  go_ret
  exact⟨ret_bool R2.out.symm,rfl⟩
theorem rdep_follows_Unless (op:ByteArray)(n:Nat)(p:ByteArray)(w:World)(h:bl op=wUnless)(hn:n≠1):
  Calls Tryz.prog 233 #[.string op,.int .i64 n,.string p] w fun e w'=>e=.returned (.bool (rFollows (bl op) n (bl p)))∧w=w':=by
 have E:op.toList=[117,110,108,101,115,115]:=by rw[bl_toList];exact h
 have R:Hid (rFollows (bl op) n (bl p)=(decide (n=2)&&decide (bl p=wElse))):=by show _=_;rw[h];exact follows_Unless hn _
 have q1:((n:Int)==1)=false:=by simp;omega
 clear h
 by_cases n2:n=2
 ·subst n2
  cases hp:(p.toList==([101,108,115,101]:List UInt8)) with
  | true=>
   have F:p.toList=[101,108,115,101]:=by simpa using hp
   have R2:Hid (rFollows (bl op) 2 (bl p)=true):=by show _=_;rw[R.out,←bl_toList,F];rfl
   clear hp
   go_enter Tryz.func233,Tryz.ntmps233
   go_wp2_with fail
   go_ret
   exact⟨ret_bool R2.out.symm,rfl⟩
  | false=>
   have R2:Hid (rFollows (bl op) 2 (bl p)=false):=by show _=_;rw[R.out,←bl_toList];simp only[decide_true,Bool.true_and];exact decide_eq_false (by rw[beq_eq_false_iff_ne] at hp;exact hp)
   go_enter Tryz.func233,Tryz.ntmps233
   go_wp2_with fail
   go_ret
   exact⟨ret_bool R2.out.symm,rfl⟩
 ·have q2:((n:Int)==2)=false:=by simp;omega
  have R2:Hid (rFollows (bl op) n (bl p)=false):=by show _=_;rw[R.out,decide_eq_false n2];rfl
  go_enter Tryz.func233,Tryz.ntmps233
  go_wp2_with fail
  go_ret
  exact⟨ret_bool R2.out.symm,rfl⟩
theorem rdep_follows_With (op:ByteArray)(n:Nat)(p:ByteArray)(w:World)(h:bl op=wWith)(hn:n≠1):
  Calls Tryz.prog 233 #[.string op,.int .i64 n,.string p] w fun e w'=>e=.returned (.bool (rFollows (bl op) n (bl p)))∧w=w':=by
 have E:op.toList=[119,105,116,104]:=by rw[bl_toList];exact h
 have R:Hid (rFollows (bl op) n (bl p)=false):=by show _=_;rw[h];exact follows_With hn _
 have q1:((n:Int)==1)=false:=by simp;omega
 clear h
 go_enter Tryz.func233,Tryz.ntmps233
 go_wp2_with fail
 go_ret
 exact⟨ret_bool R.out.symm,rfl⟩
theorem rdep_follows_Without (op:ByteArray)(n:Nat)(p:ByteArray)(w:World)(h:bl op=wWithout)(hn:n≠1):
  Calls Tryz.prog 233 #[.string op,.int .i64 n,.string p] w fun e w'=>e=.returned (.bool (rFollows (bl op) n (bl p)))∧w=w':=by
 have E:op.toList=[119,105,116,104,111,117,116]:=by rw[bl_toList];exact h
 have R:Hid (rFollows (bl op) n (bl p)=false):=by show _=_;rw[h];exact follows_Without hn _
 have q1:((n:Int)==1)=false:=by simp;omega
 clear h
 go_enter Tryz.func233,Tryz.ntmps233
 go_wp2_with fail
 go_ret
 exact⟨ret_bool R.out.symm,rfl⟩
theorem rdep_follows (op:ByteArray)(n:Nat)(p:ByteArray)(w:World)(hG:Gl w):
  Calls Tryz.prog 233 #[.string op,.int .i64 n,.string p] w fun e w'=>e=.returned (.bool (rFollows (bl op) n (bl p)))∧w=w':=by
 by_cases n1:n=1
 ·subst n1
  have R:Hid (rFollows (bl op) 1 (bl p)=rWordB (bl p)):=rfl
  have hK:=rdep_known p w hG
  clear hG
  go_enter Tryz.func233,Tryz.ntmps233
  go_wp2_with fail
  refine hK.mono ?_;rintro e w' ⟨rfl,rfl⟩
  go_wp2_with fail
  go_ret
  exact⟨ret_bool R.out.symm,rfl⟩
 rcases word_cases (bl op) with h | h | h | h | h | h | h
 ·exact rdep_follows_And op n p w h n1
 ·exact rdep_follows_Or op n p w h n1
 ·exact rdep_follows_If op n p w h n1
 ·exact rdep_follows_Unless op n p w h n1
 ·exact rdep_follows_With op n p w h n1
 ·exact rdep_follows_Without op n p w h n1
 ·obtain⟨h1,h2,h3,h4,h5,h6⟩:=not_word h
  have R:Hid (rFollows (bl op) n (bl p)=false):=follows_none h n1 _
  have q1:((n:Int)==1)=false:=by simp;omega
  clear h hG n1
  go_enter Tryz.func233,Tryz.ntmps233
  go_wp2_with fail
  go_ret
  exact⟨ret_bool R.out.symm,rfl⟩
end
section
open Go.RowKit Go.MapKept
def RchM.key (t:RchM):Value:=.agg #[.pointer t.ka,.int .i64 t.kids.length]
theorem info_rich:(Tryz.prog.info? 121).map (fun i=>(i.zero,i.size,i.bytes))=some (some (.agg #[.string ⟨#[]⟩,.string ⟨#[]⟩,.int .i64 0,.string ⟨#[]⟩,.slice none 0 0]),5,80):=by kernel_rfl
theorem own_addr {w:World}{lo:Nat}{bad:Option Nat}{t:RchM}(h:TOwn w lo bad t)(hk:t.kids≠[]):∃ g cur,t.ka=some ⟨g,0,none⟩∧w.heap[g]?=some (.cells cur 121 (0,0))∧lo≤g:=by
 rcases h.row.2 with⟨_,h0⟩ | ⟨g,cap,cur,hv,h1,h2,_⟩
 ·exact absurd (List.length_eq_zero_iff.1 h0) hk
 ·injection hv with hv
  exact⟨g,cur,hv,h2,h1⟩
theorem ptr_same (w:World)(d:Nat)(a:Addr):(Op.equalIn (d+1) 264 (.pointer (some a)) (.pointer (some a))).run Tryz.prog w=.ok true w:=by
 obtain⟨i0,hi0,_,hz,_⟩:=info_parts info_rich
 simp[Op.equalIn,run_underlying Tryz.underlying264,sizeOf,typeInfo,hi0,run_sameAddr_same]
theorem ptr_other (w:World)(d:Nat){a b:Addr}{ca cb:Array Value}{ta tb:TypeId}(hne:a≠b)(ha:w.heap[a.block]?=some (.cells ca ta (0,0)))(hb:w.heap[b.block]?=some (.cells cb tb (0,0))):(Op.equalIn (d+1) 264 (.pointer (some a)) (.pointer (some b))).run Tryz.prog w=.ok false w:=by
 obtain⟨i0,hi0,_,hz,_⟩:=info_parts info_rich
 simp[Op.equalIn,run_underlying Tryz.underlying264,sizeOf,typeInfo,hi0,hz,run_sameAddr_other w hne ha hb]
theorem key_equal {w:World}{t u:RchM}(ht:TOwn w 0 none t)(hu:TOwn w 0 none u)(kt:t.kids≠[])(ku:u.kids≠[]):
  (Op.equal 266 t.key u.key).run Tryz.prog w=.ok (decide (t.ka=u.ka∧t.kids.length=u.kids.length)) w:=by
 obtain⟨g1,c1,e1,h1,_⟩:=own_addr ht kt
 obtain⟨g2,c2,e2,h2,_⟩:=own_addr hu ku
 unfold RchM.key Op.equal Op.maxDepth
 rw[e1,e2]
 by_cases hg:g1=g2
 ·subst hg
  have hp:=fun d=>ptr_same w d ⟨g1,0,none⟩
  simp[go_sem,hp]
  by_cases hl:t.kids.length=u.kids.length
  ·simp[hl]
  ·simp[hl];omega
 ·have hp:=fun d=>ptr_other w d (a:=⟨g1,0,none⟩) (b:=⟨g2,0,none⟩) (fun e=>hg (by injection e)) h1 h2
  simp[go_sem,hp,hg]
theorem key_check (w:World)(em:Bool)(t:RchM):(Instr.checkKey em 10000 266 t.key).run Tryz.prog w=.ok () w:=by
 have h:∀ d:Nat,(Instr.checkKey em (d+1+1) 266 t.key).run Tryz.prog w=.ok () w:=by
  intro d
  unfold RchM.key
  simp[Instr.checkKey,run_underlying Tryz.underlying266,go_sem]
 exact h 9998
theorem key_stays (w:World){t u:RchM}(h1:t.ka=u.ka)(h2:t.kids.length=u.kids.length):(Instr.keyThatStays t.key u.key).run Tryz.prog w=.ok u.key w:=by
 have:t.key=u.key:=by unfold RchM.key;rw[h1,h2]
 rw[this]
 unfold RchM.key
 simp[Instr.keyThatStays,Instr.sameBits]
theorem find_asks (w:World)(k:Value)(es:List MapEntry):(Instr.findKey 266 k es).run Tryz.prog w=(Instr.findAsking 266 k es 0).run Tryz.prog w:=by
 cases es with
 | nil=>simp[Instr.findKey,Instr.findAsking,Instr.findNow,run_underlying Tryz.underlying266]
 | cons e r=>simp[Instr.findKey,Instr.findNow,Instr.sameNow,run_underlying Tryz.underlying266]
structure KMap (w:World) (b:Nat) (ms:List (RchM×Nat)):Prop where
 ex:∃ es clock,w.heap[b]?=some (.map es clock)∧es.toList.map (fun e=>(e.key,e.val))=ms.map (fun p=>(p.1.key,Value.int .i64 p.2))
 own:∀ p∈ms,TOwn w 0 none p.1∧p.1.kids≠[]
theorem find_key {w:World}{t:RchM}(ht:TOwn w 0 none t)(hk:t.kids≠[]):∀ (es:List MapEntry)(ms:List (RchM×Nat))(i:Nat),es.map (fun e=>(e.key,e.val))=ms.map (fun p=>(p.1.key,Value.int .i64 p.2))→(∀ p∈ms,TOwn w 0 none p.1∧p.1.kids≠[]) →
  ((Instr.findAsking 266 t.key es i).run Tryz.prog w=.ok none w) ∨
  ∃ j p,(Instr.findAsking 266 t.key es i).run Tryz.prog w=.ok (some (i+j,Value.int .i64 p.2)) w∧ms[j]?=some p∧p.1.ka=t.ka∧p.1.kids=t.kids
 | [],ms,i,_,_=>.inl (by simp[Instr.findAsking])
 | e::es,[],i,h,_=>by simp at h
 | e::es,p::ms,i,h,ho=>by
  simp only[List.map_cons,List.cons.injEq,Prod.mk.injEq] at h
  obtain⟨⟨h1,h2⟩,h3⟩:=h
  obtain⟨o1,o2⟩:=ho p (by simp)
  have hq:=key_equal ht o1 hk o2
  by_cases he:t.ka=p.1.ka∧t.kids.length=p.1.kids.length
  ·right
   refine⟨0,p,?_,rfl,he.1.symm,(same_kids ht.rd p.1 o1.rd he.1 he.2).symm⟩
   rw[decide_eq_true he] at hq
   simp[Instr.findAsking,h1,h2,hq]
  ·rw[decide_eq_false he] at hq
   rcases find_key ht hk es ms (i+1) h3 (fun q hq=>ho q (by simp[hq])) with h4 | ⟨j,q,h4,h5,h6⟩
   ·left;simp[Instr.findAsking,h1,hq,h4]
   ·right;exact⟨j+1,q,by simp[Instr.findAsking,h1,hq,h4,Nat.add_assoc,Nat.add_comm 1 j],by simpa using h5,h6⟩
theorem KMap.look {w:World}{b:Nat}{ms:List (RchM×Nat)}(h:KMap w b ms){t:RchM}(ht:TOwn w 0 none t)(hk:t.kids≠[]):
  ((Instr.lookup 220 (.map (some b)) t.key true).run Tryz.prog w=.ok (.tuple #[.int .i64 0,.bool false]) w) ∨
  ∃ p∈ms,p.1.kids=t.kids∧(Instr.lookup 220 (.map (some b)) t.key true).run Tryz.prog w=.ok (.tuple #[.int .i64 p.2,.bool true]) w:=by
 obtain⟨es,clock,hb,hm⟩:=h.ex
 rcases find_key ht hk es.toList ms 0 hm h.own with h1 | ⟨j,p,h1,h2,h3,h4⟩
 ·left;simp[Instr.lookup,run_underlying Tryz.underlying220,MapKept.run_getObj_map hb,key_check,find_asks,h1,go_sem]
 ·right;exact⟨p,List.mem_of_getElem? h2,h4,by simp[Instr.lookup,run_underlying Tryz.underlying220,MapKept.run_getObj_map hb,key_check,find_asks,h1]⟩
theorem TOwn.off {w:World}{lo b:Nat}{bad:Option Nat}{t:RchM}{es:Array MapEntry}{c:Nat}(h:TOwn w lo bad t)(hb:w.heap[b]?=some (.map es c)):TOwn w lo (some b) t:=by
 induction h with
 | mk t row ne _ ih=>
  refine .mk t row (fun g hg e=>?_) ih
  injection e with e;subst e
  rcases row.2 with⟨hv,_⟩ | ⟨g',cap,cur,hv,_,h2,_⟩
  ·rw[hv] at hg;simp[Value.ownBlock] at hg
  ·rw[hv] at hg;simp[Value.ownBlock] at hg;subst hg;rw[hb] at h2;simp at h2
theorem KMap.tree {w w':World}{lo b:Nat}{ms:List (RchM×Nat)}{t:RchM}(h:KMap w b ms)(ht:TOwn w lo none t)(hg:w.grownBy w' (some b)):TOwn w' lo none t:=by
 obtain⟨es,clock,hb,_⟩:=h.ex
 exact((ht.off hb).grown hg).any
theorem KMap.below {w w':World}{b:Nat}{ms:List (RchM×Nat)}(h:KMap w b ms)(hb:Below w.heap.size w w'):KMap w' b ms:=by
 obtain⟨es,clock,h1,h2⟩:=h.ex
 exact⟨⟨es,clock,(hb.block b (Array.getElem?_eq_some_iff.1 h1).1).trans h1,h2⟩,fun p hp=>⟨(h.own p hp).1.low hb,(h.own p hp).2⟩⟩
theorem KMap.lt {w:World}{b:Nat}{ms:List (RchM×Nat)}(h:KMap w b ms):b<w.heap.size:=by
 obtain⟨es,clock,h1,h2⟩:=h.ex;exact(Array.getElem?_eq_some_iff.1 h1).1
theorem KMap.made (w:World):KMap (w.alloc (.map #[] 0)) w.heap.size []:=⟨⟨#[],0,heap_alloc_new w _,by simp⟩,by simp⟩
theorem KMap.put {w:World}{b:Nat}{ms:List (RchM×Nat)}(h:KMap w b ms){t:RchM}(ht:TOwn w 0 none t)(hk:t.kids≠[])(v:Nat):
  ∃ w' ms',(Instr.mapUpdate 220 (.map (some b)) t.key (.int .i64 v)).run Tryz.prog w=.ok () w'∧KMap w' b ms'∧w.grownBy w' (some b)∧w'.heap.size=w.heap.size ∧
   (∀ p∈ms',(∃ q∈ms,q=p)∨p.1.kids=t.kids∧p.2=v)∧(∀ p∈ms,∃ q∈ms',q.1=p.1)∧∃ q∈ms',q.1.kids=t.kids:=by
 obtain⟨es,clock,hb,hm⟩:=h.ex
 have hlt:=h.lt
 have grow:∀ o,w.grownBy { w with heap:=w.heap.setIfInBounds b o } (some b):=fun o=>⟨rfl,rfl,rfl,by simp,fun k hk hne=>(heap_set hb).2 k (fun e=>hne (by rw[e]))⟩
 rcases find_key ht hk es.toList ms 0 hm h.own with h1 | ⟨j,p,h1,h2,h3,h4⟩
 ·refine⟨{ w with heap:=w.heap.setIfInBounds b (.map (es.push { key:=t.key,val:=.int .i64 v,born:=clock }) (clock+1)) },ms++[(t,v)],?_,⟨⟨_,_,(heap_set hb).1,by simp[hm]⟩,fun p hp=>?_⟩,grow _,by simp,fun p hp=>?_,fun p hp=>⟨p,by simp[hp],rfl⟩,⟨(t,v),by simp,rfl⟩⟩
  ·simp[Instr.mapUpdate,run_underlying Tryz.underlying220,MapKept.run_getObj_map hb,key_check,find_asks,h1,MapKept.run_setObj_map _ hb]
  ·rcases List.mem_append.1 hp with hp | hp
   ·exact⟨h.tree (h.own p hp).1 (grow _),(h.own p hp).2⟩
   ·obtain rfl:=List.mem_singleton.1 hp
    exact⟨h.tree ht (grow _),hk⟩
  ·rcases List.mem_append.1 hp with hp | hp
   ·exact .inl ⟨p,hp,rfl⟩
   ·obtain rfl:=List.mem_singleton.1 hp
    exact .inr ⟨rfl,rfl⟩
 ·simp only[Nat.zero_add] at h1
  obtain⟨hj,hpj⟩:=List.getElem?_eq_some_iff.1 h2
  have hlen:es.size=ms.length:=by have:=congrArg List.length hm;simpa using this
  have hek:es[j]?.map (fun e=>e.key)=some p.1.key:=by
   have:=congrArg (fun l=>l[j]?) hm
   simp[h2] at this
   obtain⟨e,he,h5,h6⟩:=this
   rw[he];simp[h5]
  have hst:=key_stays w (t:=p.1) (u:=t) h3 (by rw[h4])
  have hkey:p.1.key=t.key:=by unfold RchM.key;rw[h3,h4]
  refine⟨{ w with heap:=w.heap.setIfInBounds b (.map (es.modify j fun e=>{ e with key:=t.key,val:=.int .i64 v }) clock) },ms.set j (p.1,v),?_,⟨⟨_,_,(heap_set hb).1,?_⟩,fun q hq=>?_⟩,grow _,by simp,fun q hq=>?_,fun q hq=>?_,⟨(p.1,v),List.mem_set hj _,h4⟩⟩
  ·simp[Instr.mapUpdate,run_underlying Tryz.underlying220,MapKept.run_getObj_map hb,key_check,find_asks,h1,MapKept.run_setObj_map _ hb,hek,hst]
  ·apply List.ext_getElem?
   intro i
   have hi:=congrArg (fun l=>l[i]?) hm
   simp only[List.getElem?_map,Array.getElem?_toList] at hi
   simp only[List.getElem?_map,Array.getElem?_toList,Array.getElem?_modify,List.getElem?_set]
   by_cases hij:j=i
   ·subst hij
    obtain⟨e,he⟩:∃ e,es[j]?=some e:=⟨_,Array.getElem?_eq_getElem (by rw[hlen];exact hj)⟩
    simp[hj,he,hkey]
   ·simp[hij,hi]
  ·rcases List.mem_or_eq_of_mem_set hq with hq | rfl
   ·exact⟨h.tree (h.own q hq).1 (grow _),(h.own q hq).2⟩
   ·exact⟨h.tree (h.own p (List.mem_of_getElem? h2)).1 (grow _),(h.own p (List.mem_of_getElem? h2)).2⟩
  ·rcases List.mem_or_eq_of_mem_set hq with hq | rfl
   ·exact .inl ⟨q,hq,rfl⟩
   ·exact .inr ⟨h4,rfl⟩
  ·obtain⟨i,hi⟩:=List.getElem?_of_mem hq
   by_cases hij:j=i
   ·subst hij;rw[h2] at hi;injection hi with hi;subst hi
    exact⟨(p.1,v),List.mem_set hj _,rfl⟩
   ·exact⟨q,List.mem_of_getElem? (i:=i) (by rw[List.getElem?_set_ne hij];exact hi),rfl⟩
theorem heights_len (f:RchM→Nat):∀ (m:Nat)(l:List (RchM×Nat)),(∀ i,i<m→∃ p∈l,f p.1=i)→m≤l.length
 | 0,_,_=>Nat.zero_le _
 | m+1,l,h=>by
  obtain⟨p,hp,hf⟩:=h m (by omega)
  have h1:=heights_len f m (l.filter fun q=>decide (f q.1≠m)) (fun i hi=>by
   obtain⟨q,hq,hfq⟩:=h i (by omega)
   exact⟨q,List.mem_filter.2 ⟨hq,by simp;omega⟩,hfq⟩)
  have h2:(l.filter fun q=>decide (f q.1≠m)).length<l.length:=List.length_filter_lt_length_iff_exists.2 ⟨p,hp,by simp[hf]⟩
  omega
end
section
open Go.RowKit Go.Deep
theorem rTail_append (op:List UInt8):∀ (a:List Rch)(i:Nat)(b:List Rch),rTail op i (a++b)=rTail op i a++rTail op (i+a.length) b
 | [],i,b=>by simp[rTail]
 | x::r,i,b=>by
  have h:=rTail_append op r (i+1) b
  simp only[List.cons_append,rTail,h,List.length_cons]
  rw[show i+1+r.length=i+(r.length+1) by omega]
  simp[List.append_assoc]
theorem plL_append' (a b:List RchM):plL (a++b)=plL a++plL b:=by rw[plL_map,plL_map,plL_map,List.map_append]
theorem plL_length' (a:List RchM):(plL a).length=a.length:=by rw[plL_map];simp
theorem tail_one (op:List UInt8)(k:RchM):rTail op 0 (plL [k])=rText k.pl:=by simp[plL,rTail]
theorem tail_more (op:List UInt8)(ks:List RchM)(i:Nat)(t:RchM)(ht:ks[i+1]?=some t):rTail op 0 (plL (ks.take (i+2)))=rTail op 0 (plL (ks.take (i+1)))++([32]++rWd op (i+1)++[32]++rText t.pl):=by
 obtain⟨hk,hg⟩:=List.getElem?_eq_some_iff.1 ht
 rw[show i+2=i+1+1 from rfl,List.take_succ_eq_append_getElem hk,hg,plL_append',rTail_append,plL_length',List.length_take,Nat.min_eq_left (by omega)]
 simp[plL,rTail]
theorem rWd_succ (op:List UInt8)(i:Nat):rWd op (i+1)=if 0<i∧(op=wIf∨op=wUnless) then wElse else op:=by
 unfold rWd;congr 1;apply propext;constructor<;>rintro⟨h1,h2⟩<;>exact⟨by omega,h2⟩
def TxC (T:RchM):Prop:=∀ w:World,Gl w→TOwn w 0 none T→T.cnt≤64→Calls Tryz.prog 131 #[T.val] w fun e w'=>e=.returned (.string (mkB (rText T.pl)))∧Below w.heap.size w w'
theorem rdep_text {T:RchM}(h:TGood T):TxC T:=by
 induction h with
 | atom nm aop ver hn ho hv0 hv=>
  intro w hG _ _
  have HG:=hid hG
  have hnz:=(rname_len hn).2
  have HV:=hid hv
  rw[pl_atom _ _ _ _ _ _ _ rfl]
  clear hn hv0 hv hG
  obtain⟨W1,hW1⟩:∃ W1,w.alloc (.cells #[.string ⟨#[]⟩,.string nm,.int .i64 aop,.string ver,.slice none 0 0] 121)=W1:=⟨_,rfl⟩
  have B1:Hid (Below w.heap.size w W1):=by rw[←hW1];exact(Below.refl _ _).alloc lr _
  have K1:Hid (Blk W1 w.heap.size [.string ⟨#[]⟩,.string nm,.int .i64 aop,.string ver,.slice none 0 0]):=by rw[←hW1];exact Blk.new w [.string ⟨#[]⟩,.string nm,.int .i64 aop,.string ver,.slice none 0 0] _
  have k0:=K1.out.cell 0 _ rfl
  have k1:=K1.out.cell 1 _ rfl
  have k2:=K1.out.cell 2 _ rfl
  have k3:=K1.out.cell 3 _ rfl
  show Calls Tryz.prog 131 #[.agg #[.string ⟨#[]⟩,.string nm,.int .i64 aop,.string ver,.slice none 0 0]] w _
  by_cases a0:aop=0
  ·have q0:((aop:Int)==0)=true:=by simp[a0]
   have E:Hid (bl nm=rText (.atom (bl nm) aop (bl ver))):=by show _=_;simp[rText,a0]
   clear a0
   go_enter Tryz.func131,Tryz.ntmps131
   go_wp2_with fail
   go_ret
   exact⟨by rw[←eq_mk E.out];rfl,B1.out⟩
  ·have q0:((aop:Int)==0)=false:=by simp;omega
   have hvz:=ver_size (HV.out (by omega))
   have hsg:=(HG.out.below B1.out).rsg aop (by omega)
   have hsz:(rSign aop).size≤2:=by rw[←bl_length,rSign_at aop (by omega)];exact sgR_len _
   have E:Hid (bl (nm++⟨#[32]⟩++rSign aop++⟨#[32]⟩++ver)=rText (.atom (bl nm) aop (bl ver))):=by
    show _=_;simp only[bl_append];unfold rText;rw[if_neg a0,rSign_at aop (by omega)];rfl
   have o2:(aop:Int)<6:=by omega
   have o3:(0:Int)≤(aop:Int):=by omega
   clear a0
   go_enter Tryz.func131,Tryz.ntmps131
   go_wp2_with fail
   go_quiet (fail)
   go_wp2_with fail
   go_ret
   exact⟨by rw[←eq_mk E.out];rfl,below_drewN B1.out _⟩
 | node op ka kc kids ho hc hk ih=>
  intro w hG hO hcn
  have HG:=hid hG
  have HO:=hid hO
  have HIH:=hid ih
  have HGD:=hid hk
  obtain⟨hw,hw7⟩:=word_ne ho
  have HW7:=hid hw7
  have hop7:op.size≤7:=by rw[←bl_length];exact hw7
  have o0:(op.toList==([]:List UInt8))=false:=by rw[bl_toList,beq_eq_false_iff_ne];exact hw
  have o2:¬ op.toList=[]:=by rw[bl_toList];exact hw
  have o1:op.toList.isEmpty=false:=by rw[List.isEmpty_eq_false_iff];exact o2
  obtain⟨tl,htl⟩:∃ tl,kids.length=tl:=⟨_,rfl⟩
  have HTL:=hid htl
  have ht2:2≤tl:=by have:=closes_two hc;omega
  have CNE:=hid (cnt_node (t:=.mk op ⟨#[]⟩ 0 ⟨#[]⟩ ka kc kids) (by intro e;simp only[RchM.kids] at e;rw[e] at htl;simp at htl;omega))
  have HCN:Hid (cntL kids≤64):=by have h1:=CNE.out;simp only[RchM.kids] at h1;show _≤_;omega
  have htl9:tl≤64:=by have h1:=cntL_len kids;have:=HCN.out;omega
  have hkc:tl≤kc:=by have:=owns_cap hO.row;simp only[RchM.kids,RchM.kc] at this;omega
  have hkm:kc≤9223372036854775807:=by
   rcases hO.row.2 with⟨hv,_⟩ | ⟨g,cap,cur,hv,_,_,_,h5,_⟩
   ·injection hv with _ _ h3;simp only[RchM.kc] at h3;omega
   ·injection hv with _ _ h3;simp only[RchM.kc] at h3;simp only[maxLen] at h5;omega
  obtain⟨g,cur,hA,hg,-⟩:=own_addr hO (by intro e;simp only[RchM.kids] at e;rw[e] at htl;simp at htl;omega)
  simp only[RchM.ka] at hA
  subst hA
  obtain⟨W1,hW1⟩:∃ W1,w.alloc (.cells #[.string op,.string ⟨#[]⟩,.int .i64 0,.string ⟨#[]⟩,.slice (some ⟨g,0,none⟩) tl kc] 121)=W1:=⟨_,rfl⟩
  have B1:Hid (Below w.heap.size w W1):=by rw[←hW1];exact(Below.refl _ _).alloc lr _
  have K1:Hid (Blk W1 w.heap.size [.string op,.string ⟨#[]⟩,.int .i64 0,.string ⟨#[]⟩,.slice (some ⟨g,0,none⟩) tl kc]):=by rw[←hW1];exact Blk.new w [.string op,.string ⟨#[]⟩,.int .i64 0,.string ⟨#[]⟩,.slice (some ⟨g,0,none⟩) tl kc] _
  have k0:=K1.out.cell 0 _ rfl
  have k4:=K1.out.cell 4 _ rfl
  have O1:Hid (TOwn W1 0 none (.mk op ⟨#[]⟩ 0 ⟨#[]⟩ (some ⟨g,0,none⟩) kc kids)):=HO.out.low B1.out
  -- the texts are short
  have TS:Hid (∀ t∈kids,(mkB (rText t.pl)).size≤12800):=fun t ht=>by
   have h1:=(HGD.out t ht).text;have h2:=cntL_mem ht;have:=HCN.out;rw[mk_size];omega
  have PS:Hid (∀ i,(rTail (bl op) 0 (plL (kids.take i))).length≤12800):=fun i=>by
   have h1:=rTail_len (bl op) HW7.out (kids.take i) 0 (fun k hk=>(HGD.out k (List.mem_of_mem_take hk)).text)
   have h2:=cntL_take_le kids i;have:=HCN.out;omega
  obtain⟨t0,ht0⟩:∃ t,kids[0]?=some t:=⟨_,List.getElem?_eq_getElem (by omega)⟩
  have HT0:=hid ht0
  have hm0:Hid (t0∈kids):=List.mem_of_getElem? ht0
  obtain⟨b',off,hA,he⟩:=O1.out.rd.cell 0 t0 ht0
  simp only[RchM.ka] at hA
  injection hA with hA;injection hA with hb ho' _
  subst hb ho'
  have e0:=he 0 _ rfl
  have e1:=he 1 _ rfl
  have e2:=he 2 _ rfl
  have e3:=he 3 _ rfl
  have e4:=he 4 _ rfl
  simp only[Nat.zero_mul,Nat.add_zero,Nat.zero_add] at e0 e1 e2 e3 e4
  have hcall:=HIH.out t0 hm0.out W1 (HG.out.below B1.out) (O1.out.kids t0 hm0.out) (by have h1:=cntL_mem hm0.out;have:=HCN.out;omega)
  have hz0:=TS.out t0 hm0.out
  obtain⟨X0,hX0⟩:∃ X0,mkB (rText t0.pl)=X0:=⟨_,rfl⟩
  rw[hX0] at hcall hz0
  have HX0:Hid (bl X0=rText t0.pl):=by show _=_;rw[←hX0,bl_of]
  unfold RchM.val at hcall
  rw[pl_node _ _ _ _ _ _ _ hw]
  have hix:=fun W=>idx_of (T:=119) (E:=121) (sz:=5) (n:=tl) (c:=kc) (k:=0) (A:=some ⟨g,0,none⟩) Tryz.underlying119 rfl Tryz.sizeOf121 rfl (by omega) W
  simp only[Nat.zero_mul,Nat.add_zero] at hix
  clear ho hc hk ih hG hO hw hw7 htl hcn CNE hg he ht0 hX0
  show Calls Tryz.prog 131 #[.agg #[.string op,.string ⟨#[]⟩,.int .i64 0,.string ⟨#[]⟩,.slice (some ⟨g,0,none⟩) kids.length kc]] w _
  rw[HTL.out]
  go_enter Tryz.func131,Tryz.ntmps131
  go_wp2_with fail
  refine hcall.mono ?_;rintro e w2 ⟨rfl,hb⟩
  have B2:=hid (bthen B1.out hb)
  have K2:=hid (K1.out.below hb)
  have O2:=hid (O1.out.low hb)
  clear hcall hb e0 e1 e2 e3 e4 k0 k4 hix hW1
  have k0:=K2.out.cell 0 _ rfl
  have k4:=K2.out.cell 4 _ rfl
  have S0:Hid (bl (⟨#[40]⟩++X0)=[40]++rTail (bl op) 0 (plL (kids.take 1))):=by
   show _=_
   obtain⟨hk',hg'⟩:=List.getElem?_eq_some_iff.1 HT0.out
   rw[List.take_succ_eq_append_getElem hk',hg']
   simp only[List.take_zero,List.nil_append]
   rw[tail_one,bl_append,HX0.out];rfl
  go_wp2_with fail
  obtain⟨rl,hrl⟩:∃ rl,tl-1=rl:=⟨_,rfl⟩
  have RL:Hid (kids.length=rl+1):=by have:=HTL.out;show _=_;omega
  rw[hrl]
  have hrl64:rl≤64:=by omega
  have HSZ:Hid (w.heap.size<w2.heap.size):=K2.out.sz
  have hs0:(⟨#[40]⟩++X0:ByteArray).size≤12900:=by rw[←bl_length,S0.out,List.length_append];have:=PS.out 1;simp;omega
  clear hrl k0 k4 hkc hkm ht2 htl9 hz0
  go_loopw [3,42] (fun sv iv wr=>∃ (i:Nat) (S:ByteArray),sv=.string S∧iv=.int .i64 i∧i≤rl∧S.size≤12900∧Hid (bl S=[40]++rTail (bl op) 0 (plL (kids.take (i+1))))∧Hid (Below w.heap.size w wr)∧Hid (Blk wr w.heap.size [.string op,.string ⟨#[]⟩,.int .i64 0,.string ⟨#[]⟩,.slice (some ⟨g,0,none⟩) tl kc])) (fun _ iv _=>rl-(intOf iv).toNat)
  case atStart=>exact⟨0,_,rfl,rfl,Nat.zero_le _,hs0,S0,B2,K2⟩
  case round=>
   clear hs0 S0 K2
   obtain⟨i,S,rfl,rfl,hi,hS,HS,HB,HK⟩:=hrel
   by_cases hlt:i<rl
   ·obtain⟨t,ht⟩:∃ t,kids[i+1]?=some t:=⟨_,List.getElem?_eq_getElem (by rw[RL.out];omega)⟩
    have HT:=hid ht
    have htm:Hid (t∈kids):=List.mem_of_getElem? ht
    have O3:=HO.out.low HB.out
    obtain⟨b',off,hA,he⟩:=O3.rd.cell (i+1) t ht
    simp only[RchM.ka] at hA
    injection hA with hA;injection hA with hb ho' _
    subst hb ho'
    have e0:=he 0 _ rfl
    have e1:=he 1 _ rfl
    have e2:=he 2 _ rfl
    have e3:=he 3 _ rfl
    have e4:=he 4 _ rfl
    have hoff:0+(i+1)*5=5+i*5:=by omega
    rw[hoff] at e0 e1 e2 e3 e4
    simp only[Nat.add_zero] at e0
    have hix:=fun W=>idx_of (T:=119) (E:=121) (sz:=5) (n:=rl) (c:=kc-1) (k:=i) (A:=some ⟨g,5,none⟩) Tryz.underlying119 rfl Tryz.sizeOf121 rfl hlt W
    obtain⟨W3,hW3⟩:∃ W3,wr.alloc (.cells #[.string t.op,.string t.nm,.int .i64 t.aop,.string t.ver,.slice t.ka t.kids.length t.kc] 121)=W3:=⟨_,rfl⟩
    have B3:Hid (Below wr.heap.size wr W3):=by rw[←hW3];exact(Below.refl _ _).alloc lr _
    have K3:Hid (Blk W3 wr.heap.size t.cells):=by rw[←hW3];exact Blk.new wr t.cells _
    have B4:=hid (bthen HB.out B3.out)
    have HK3:=hid (HK.out.below B3.out)
    have hcall:=HIH.out t htm.out W3 (HG.out.below B4.out) ((O3.low B3.out).kids t htm.out) (by have h1:=cntL_mem htm.out;have:=HCN.out;omega)
    have hz:=TS.out t htm.out
    obtain⟨X,hX⟩:∃ X,mkB (rText t.pl)=X:=⟨_,rfl⟩
    rw[hX] at hcall hz
    have HX:Hid (bl X=rText t.pl):=by show _=_;rw[←hX,bl_of]
    unfold RchM.val at hcall
    have a0:=K3.out.cell 0 _ rfl
    have a1:=K3.out.cell 1 _ rfl
    have a2:=K3.out.cell 2 _ rfl
    have a3:=K3.out.cell 3 _ rfl
    have a4:=K3.out.cell 4 _ rfl
    have b0:=HK3.out.cell 0 _ rfl
    clear ht he O3 hX hoff
    go_upto_region 10 with(fail)
    clear hW3 e0 e1 e2 e3 e4 hix
    obtain⟨bb,hbb⟩:∃ bb:Bool,decide (0<i∧(bl op=wIf∨bl op=wUnless))=bb:=⟨_,rfl⟩
    have HBB:=hid hbb
    clear hbb
    go_cut [58] (fun v wx=>v=.bool bb∧W3=wx)
    case first=>
     clear hcall
     by_cases i0:0<i
     ·have q1:decide ((0:Int)<(i:Int))=true:=decide_eq_true (by omega)
      have q2:decide (0<i)=true:=decide_eq_true i0
      by_cases w1:bl op=wIf
      ·have F1:op.toList=[105,102]:=by rw[bl_toList];exact w1
       have E2:Hid (bb=true):=by show _=_;rw[←HBB.out];exact decide_eq_true ⟨i0,.inl w1⟩
       clear w1 o0 o1 o2
       go_wp2_with fail
       go_meet
       exact⟨by rw[E2.out],rfl⟩
      ·have F1:(op.toList==([105,102]:List UInt8))=false:=by rw[bl_toList,beq_eq_false_iff_ne];exact w1
       by_cases w2:bl op=wUnless
       ·have F2:op.toList=[117,110,108,101,115,115]:=by rw[bl_toList];exact w2
        have E2:Hid (bb=true):=by show _=_;rw[←HBB.out];exact decide_eq_true ⟨i0,.inr w2⟩
        clear w1 w2 o0 o1 o2 F1
        go_wp2_with fail
        go_meet
        exact⟨by rw[E2.out],rfl⟩
       ·have F2:(op.toList==([117,110,108,101,115,115]:List UInt8))=false:=by rw[bl_toList,beq_eq_false_iff_ne];exact w2
        have E2:Hid (bb=false):=by show _=_;rw[←HBB.out];exact decide_eq_false (by rintro⟨_,h | h⟩<;>contradiction)
        clear w1 w2 o0 o1 o2
        go_wp2_with fail
        go_meet
        exact⟨by rw[E2.out],rfl⟩
     ·have q1:decide ((0:Int)<(i:Int))=false:=decide_eq_false (by omega)
      have q2:decide (0<i)=false:=decide_eq_false i0
      have E2:Hid (bb=false):=by show _=_;rw[←HBB.out];exact decide_eq_false (fun h=>i0 h.1)
      go_wp2_with fail
      go_meet
      exact⟨by rw[E2.out],rfl⟩
    case rest=>
    obtain⟨rfl,rfl⟩:=hcut
    go_upto_if 58 with(fail)
    go_cut [6] (fun v wx=>∃ Wd:ByteArray,v=.string Wd∧Wd.size≤7∧Hid (bl Wd=rWd (bl op) (i+1))∧W3=wx)
    case first=>
     cases bb with
     | true=>
      have E:Hid (bl ⟨#[101,108,115,101]⟩=rWd (bl op) (i+1)):=by show _=_;rw[rWd_succ,if_pos (of_decide_eq_true HBB.out)];rfl
      go_wp2_with fail
      go_meet
      exact⟨_,rfl,by decide,E,rfl⟩
     | false=>
      have E:Hid (bl op=rWd (bl op) (i+1)):=by show _=_;rw[rWd_succ,if_neg (of_decide_eq_false HBB.out)]
      go_wp2_with fail
      go_meet
      exact⟨_,rfl,hop7,E,rfl⟩
    case rest=>
    obtain⟨Wd,rfl,hWd,EW,rfl⟩:=hcut
    have SN:Hid (bl (S++(⟨#[32]⟩++Wd++⟨#[32]⟩++X))=[40]++rTail (bl op) 0 (plL (kids.take (i+2)))):=by
     show _=_
     rw[tail_more _ _ _ _ HT.out];simp only[bl_append];rw[HS.out,EW.out,HX.out]
     simp[List.append_assoc];rfl
    have hsn:(S++(⟨#[32]⟩++Wd++⟨#[32]⟩++X):ByteArray).size≤12900:=by rw[←bl_length,SN.out,List.length_append];have:=PS.out (i+2);simp;omega
    have HSN:Hid ((S++(⟨#[32]⟩++Wd++⟨#[32]⟩++X):ByteArray).size≤12900):=hsn
    clear hsn
    have a0:=K3.out.cell 0 _ rfl
    have a1:=K3.out.cell 1 _ rfl
    have a2:=K3.out.cell 2 _ rfl
    have a3:=K3.out.cell 3 _ rfl
    have a4:=K3.out.cell 4 _ rfl
    go_wp2_with fail
    refine hcall.mono ?_;rintro e w4 ⟨rfl,hb⟩
    have B5:=hid (bthen B4.out hb)
    have HK5:=hid (HK3.out.below hb)
    clear hcall hb a0 a1 a2 a3 a4 b0
    go_wp2_with fail
    go_roundw
    case rel=>exact⟨i+1,_,rfl,by go_num,by omega,HSN.out,SN,B5,HK5⟩
    case measure=>simp[intOf];omega
   ·have E:Hid (bl (S++⟨#[41]⟩)=rText (.node (bl op) (plL kids))):=by
     have h1:=HS.out
     rw[List.take_of_length_le (by rw[RL.out];omega)] at h1
     show _=_;rw[bl_append,h1];rfl
    go_wp2_with fail
    go_ret
    exact⟨by rw[←eq_mk E.out];rfl,HB.out⟩
end
section
open Go.RowKit Go.Deep
structure PR (w:World) (a hi:Nat) (l:List UInt8) (n m:Nat):Prop where
 blk:∃ (b off c f:Nat) (xs:List PtM),Blk w a [.slice (some ⟨b,off,none⟩) m c,.int .i64 n]∧Rd w 2 (some ⟨b,off,none⟩) m (xs.flatMap PtM.cells)∧xs.length=m∧xs.map (fun x=>bl x.text)=rToks (f+1) l∧l.length≤f∧b≠a∧b<hi∧m≤c∧c≤maxLen∧∀ x∈xs,x.text.size≤4294967280
 lt:a<hi
 hz:hi≤w.heap.size
structure PRc (w:World) (a b off m c n:Nat) (T:ByteArray) (p:Nat):Prop where
 c0:w.cell? ⟨a,0,none⟩=some (.slice (some ⟨b,off,none⟩) m c)
 c1:w.cell? ⟨a,1,none⟩=some (.int .i64 n)
 f0:w.frozen? ⟨a,0,none⟩=false
 f1:w.frozen? ⟨a,1,none⟩=false
 t0:w.cell? ⟨b,off,none⟩=some (.string T)
 t1:w.cell? ⟨b,off+1,none⟩=some (.int .i64 p)
 ne:b≠a
 m1:1≤m
 mc:m≤c
 cz:c≤maxLen
 tz:T.size≤4294967280
theorem PR.cells {w:World}{a hi n m:Nat}{l:List UInt8}(h:PR w a hi l n m):∃ b off c T p,PRc w a b off m c n T p∧bl T=rLook l∧(rLook l≠[]→2≤m∧PR (w.setCell ⟨a,0,none⟩ (.slice (some ⟨b,off+2,none⟩) ((m-1:Nat)) ((c-1:Nat)))) a hi (rNext l) n (m-1)):=by
 obtain⟨b,off,c,f,xs,k,hr,hm,hx,hf,hne,hbh,hmc,hcz,hz⟩:=h.blk
 obtain⟨r,h1,h2⟩:=rToks_cons f l
 rw[h1] at hx
 cases xs with
 | nil=>simp at hx
 | cons x xs=>
  simp only[List.map_cons,List.cons.injEq] at hx
  obtain⟨hx0,hx1⟩:=hx
  have hm1:0<m:=by rw[←hm];simp
  obtain⟨b',off',e,hc⟩:=hr.2 hm1
  injection e with e;injection e with eb eo _
  subst eb eo
  have u0:=hc 0 (.string x.text) rfl
  have u1:=hc 1 (.int .i64 x.at_) rfl
  refine⟨b,off,c,x.text,x.at_,⟨k.cell 0 _ rfl,k.cell 1 _ rfl,k.free 0 (by simp),k.free 1 (by simp),u0,u1,hne,hm1,hmc,hcz,hz x (by simp)⟩,hx0,fun hl=>?_⟩
  have hr2:=h2 hl
  have hf2:∃ f',f=f'+1:=⟨f-1,by have:=rLook_next hl;omega⟩
  obtain⟨f',rfl⟩:=hf2
  obtain⟨r',h3,_⟩:=rToks_cons f' (rNext l)
  have hm2:2≤m:=by
   rw[←hm,List.length_cons]
   have:xs.length=r.length:=by rw[←hx1,List.length_map]
   rw[hr2,h3] at this;simp at this;omega
  refine⟨hm2,⟨b,off+2,c-1,f',xs,k.set 0 (by simp) _,?_,?_,?_,?_,hne,hbh,by omega,by omega,fun y hy=>hz y (by simp[hy])⟩,h.lt,by simpa using h.hz⟩
  ·have hk:∀ p:Addr,p.block=b→(w.setCell ⟨a,0,none⟩ (.slice (some ⟨b,off+2,none⟩) (m-1) (c-1))).cell? p=w.cell? p:=fun p hp=>World.cell?_setCell_other _ _ _ _ (by intro h;apply hne;rw[←hp,←h])
   refine⟨?_,fun _=>⟨b,off+2,rfl,fun j u hu=>?_⟩⟩
   ·have:=hr.1;rw[List.flatMap_cons,List.length_append,ptm_len] at this;omega
   ·rw[hk _ rfl]
    have:=hc (j+2) u (by rw[List.flatMap_cons,List.getElem?_append_right (by simp[PtM.cells])];simpa [PtM.cells] using hu)
    rw[show off+2+j=off+(j+2) by omega];exact this
  ·rw[←hm];simp
  ·rw[hx1,hr2]
  ·have:=rLook_next hl;omega
theorem PR.grown {w w':World}{a hi n m:Nat}{l:List UInt8}{row:Option Nat}(h:PR w a hi l n m)(hg:w.grownBy w' row)(hne:∀ j,row=some j→hi≤j):PR w' a hi l n m:=by
 obtain⟨b,off,c,f,xs,k,hr,hm,hx,hf,hba,hbh,h1⟩:=h.blk
 have hn:∀ j,j<hi→some j≠row:=fun j hj e=>by have:=hne j e.symm;omega
 refine⟨⟨b,off,c,f,xs,k.grownBy hg (hn a h.lt),?_,hm,hx,hf,hba,hbh,h1⟩,h.lt,Nat.le_trans h.hz hg.size⟩
 refine⟨hr.1,fun h0=>?_⟩
 obtain⟨b',off',e,hc⟩:=hr.2 h0
 injection e with e;injection e with e1 e2 _
 subst e1 e2
 exact⟨b,off,rfl,fun j u hu=>hg.cell (hc j u hu) (hn b hbh)⟩
theorem PR.below {w w':World}{a hi n m:Nat}{l:List UInt8}(h:PR w a hi l n m)(hb:Below w.heap.size w w'):PR w' a hi l n m:=h.grown (below_grows hb none) (by simp)
theorem PR.sz {w:World}{a hi n m:Nat}{l:List UInt8}(h:PR w a hi l n m):a<w.heap.size:=Nat.lt_of_lt_of_le h.lt h.hz
theorem PR.alloc {w:World}{a hi n m:Nat}{l:List UInt8}(h:PR w a hi l n m)(o:Obj):PR (w.alloc o) a hi l n m:=h.below ((Below.refl _ _).alloc lr o)
theorem PR.far {w:World}{a hi n m b j:Nat}{l:List UInt8}(h:PR w a hi l n m)(hb:hi≤b)(v:Value):PR (w.setCell ⟨b,j,none⟩ v) a hi l n m:=h.grown (kept_set v) (fun j e=>by injection e with e;omega)
theorem PR.count {w:World}{a hi n m:Nat}{l:List UInt8}(h:PR w a hi l n m)(v:Nat):PR (w.setCell ⟨a,1,none⟩ (.int .i64 v)) a hi l v m:=by
 obtain⟨b,off,c,f,xs,k,hr,hm,hx,hf,hne,h1⟩:=h.blk
 refine⟨⟨b,off,c,f,xs,k.set 1 (by simp) _,?_,hm,hx,hf,hne,h1⟩,h.lt,by simpa using h.hz⟩
 refine⟨hr.1,fun h0=>?_⟩
 obtain⟨b',off',e,hc⟩:=hr.2 h0
 refine⟨b',off',e,fun j u hu=>?_⟩
 rw[World.cell?_setCell_other (h:=by injection e with e;injection e with e1;intro h;apply hne;rw[e1];injection h with h;exact h.symm)]
 exact hc j u hu
end
section
open Go.RowKit Go.Deep
theorem rDep_lt:∀ f:Nat,(∀ deep n l t l' n',rDep f deep n l=some (t,l',n')→l'.length<l.length)∧(∀ deep n acc op l t l' n',rGrp f deep n acc op l=some (t,l',n')→l'.length<l.length)
 | 0=>⟨fun _ _ _ _ _ _ h=>by simp[rDep] at h,fun _ _ _ _ _ _ _ _ h=>by simp[rGrp] at h⟩
 | f+1=>by
  obtain⟨ih1,ih2⟩:=rDep_lt f
  have skip:∀ l:List UInt8,(rNext l).length≤l.length:=rNext_le
  constructor
  ·intro deep n l t l' n' h
   unfold rDep at h
   split at h
   ·simp at h
   ·rename_i h0
    have hl:rLook l≠[]:=fun e=>h0 (.inl e)
    have hlt:=rLook_next hl
    split at h
    ·split at h
     ·simp at h
     ·have:=ih2 _ _ _ _ _ _ _ _ h;omega
    ·unfold rAtom at h
     split at h
     ·simp at h
     ·split at h
      ·unfold rAtomR at h
       split at h
       ·simp only[Option.some.injEq,Prod.mk.injEq] at h
        obtain⟨_,rfl,_⟩:=h;exact hlt
       ·unfold rAtomV at h
        split at h
        ·simp at h
        ·split at h
         ·simp only[Option.some.injEq,Prod.mk.injEq] at h
          obtain⟨_,rfl,_⟩:=h
          have a1:=skip (rNext l)
          have a2:=skip (rNext (rNext l))
          omega
         ·simp at h
      ·simp at h
  ·intro deep n acc op l t l' n' h
   unfold rGrp at h
   split at h
   ·simp at h
   ·rename_i k l1 n1 hd
    have h1:=ih1 _ _ _ _ _ _ hd
    split at h
    ·simp only[Option.some.injEq,Prod.mk.injEq] at h
     obtain⟨_,rfl,_⟩:=h
     have:=skip l1;omega
    ·split at h
     ·have h2:=ih2 _ _ _ _ _ _ _ _ h
      have:=skip l1;omega
     ·simp at h
theorem TOwn.grown2 {wb w2:World}{lo:Nat}{old new:Option Nat}{t:RchM}(h:TOwn wb lo old t)(hg:wb.grownBy w2 old)(hn:new=old∨new=some wb.heap.size):TOwn w2 lo new t:=by
 induction h with
 | mk t row ne _ ih=>
  have hr:(Value.slice t.ka t.kids.length t.kc).ownBlock=none∨(Value.slice t.ka t.kids.length t.kc).ownBlock≠old:=by
   cases hb:(Value.slice t.ka t.kids.length t.kc).ownBlock with
   | none=>exact .inl rfl
   | some g=>exact .inr (ne g hb)
  refine .mk t (row.kept hg hr) (fun g hb e=>?_) ih
  rcases hn with rfl | rfl
  ·exact ne g hb e
  ·injection e with e;have:=(row.lt g hb).2;omega
structure GrS (w wr:World) (a hi:Nat) (l:List UInt8) (n r:Nat) (OP:ByteArray) (ks:List RchM) (A:Option Addr) (m cc:Nat):Prop where
 len:ks.length=m
 box:Blk wr w.heap.size [.string OP,.string ⟨#[]⟩,.int .i64 0,.string ⟨#[]⟩,.slice A m cc]
 row:wr.ownsRow (w.heap.size+1) 121 5 (.slice A m cc) m (ks.flatMap RchM.cells)
 kids:∀ k∈ks,TOwn wr (w.heap.size+1) (Value.slice A m cc).ownBlock k
 good:∀ k∈ks,TGood k
 pr:PR wr a hi l n r
 gr:w.grownBy wr (some a)
 lt:hi≤w.heap.size
theorem GrS.start {w:World}{a hi n r:Nat}{l:List UInt8}(h:PR w a hi l n r)(t:TypeId):GrS w (w.alloc (.cells #[.string ⟨#[]⟩,.string ⟨#[]⟩,.int .i64 0,.string ⟨#[]⟩,.slice none 0 0] t)) a hi l n r ⟨#[]⟩ [] none 0 0:=
 ⟨rfl,Blk.new w _ t,World.ownsRow_nil _ _ _ _,by simp,by simp,h.alloc _,below_grows ((Below.refl _ _).alloc lr _) _,h.hz⟩
theorem GrS.alt {w wr:World}{a hi n r:Nat}{l:List UInt8}{OP:ByteArray}{ks:List RchM}{A:Option Addr}{m cc:Nat}(h:GrS w wr a hi l n r OP ks A m cc):a<w.heap.size:=by have:=h.pr.lt;have:=h.lt;omega
theorem GrS.step {w wr w':World}{a hi n r n' r':Nat}{l l':List UInt8}{OP:ByteArray}{ks:List RchM}{A:Option Addr}{m cc:Nat}(h:GrS w wr a hi l n r OP ks A m cc)(hg:wr.grownBy w' (some a))(hd:PR w' a hi l' n' r'):GrS w w' a hi l' n' r' OP ks A m cc:=by
 have hlt:=h.alt
 exact⟨h.len,h.box.grownBy hg (by simp;omega),owns_kept h.row (by omega) hg,fun k hk=>(h.kids k hk).kept (by omega) hg,h.good,hd,grown_thru h.gr hg,h.lt⟩
theorem GrS.below {w wr w':World}{a hi n r:Nat}{l:List UInt8}{OP:ByteArray}{ks:List RchM}{A:Option Addr}{m cc:Nat}(h:GrS w wr a hi l n r OP ks A m cc)(hb:Below wr.heap.size wr w'):GrS w w' a hi l n r OP ks A m cc:=
 h.step (below_grows hb _) (h.pr.below hb)
theorem GrS.put {w wr:World}{a hi n r:Nat}{l:List UInt8}{OP:ByteArray}{ks:List RchM}{A:Option Addr}{m cc:Nat}(h:GrS w wr a hi l n r OP ks A m cc)(P:ByteArray):GrS w (wr.setCell ⟨w.heap.size,0,none⟩ (.string P)) a hi l n r P ks A m cc:=
 ⟨h.len,h.box.set 0 (by simp) _,owns_kept h.row (by omega) (kept_set _),fun k hk=>(h.kids k hk).kept (by omega) (kept_set _),h.good,h.pr.far h.lt _,grown_new h.gr (kept_set _) (fun j e=>by injection e with e;omega),h.lt⟩
theorem GrS.grow {w wb w2:World}{a hi n r:Nat}{l:List UInt8}{OP:ByteArray}{ks:List RchM}{A A1:Option Addr}{m cc c1:Nat}{T:RchM}(h:GrS w wb a hi l n r OP ks A m cc)(hT:TOwn wb (w.heap.size+1) (Value.slice A m cc).ownBlock T)(hgd:TGood T)
  (hr:w2.ownsRow (w.heap.size+1) 121 5 (.slice A1 (m+1) c1) (m+1) (ks.flatMap RchM.cells++T.cells))
  (hg:wb.grownBy w2 (Value.slice A m cc).ownBlock)(ha:(Value.slice A1 (m+1) c1).ownBlock=(Value.slice A m cc).ownBlock∨(Value.slice A1 (m+1) c1).ownBlock=some wb.heap.size):
  GrS w (w2.setCell ⟨w.heap.size,4,none⟩ (.slice A1 (m+1) c1)) a hi l n r OP (ks++[T]) A1 (m+1) c1:=by
 have far:∀ j,(Value.slice A m cc).ownBlock=some j→w.heap.size+1≤j:=fun j hj=>(h.row.lt j hj).1
 have hz:=h.lt
 have bx:Blk w2 w.heap.size [.string OP,.string ⟨#[]⟩,.int .i64 0,.string ⟨#[]⟩,.slice A m cc]:=h.box.grownBy hg (fun e=>by have:=far _ e.symm;omega)
 refine⟨by simp[h.len],bx.set 4 (by simp) _,?_,fun k hk=>?_,fun k hk=>?_,?_,?_,h.lt⟩
 ·rw[List.flatMap_append]
  exact owns_kept (by simpa using hr) (by omega) (kept_set _)
 ·refine TOwn.kept ?_ (by omega) (kept_set _)
  rcases List.mem_append.1 hk with hk | hk
  ·exact(h.kids k hk).grown2 hg ha
  ·obtain rfl:=List.mem_singleton.1 hk
   exact hT.grown2 hg ha
 ·rcases List.mem_append.1 hk with hk | hk
  ·exact h.good k hk
  ·obtain rfl:=List.mem_singleton.1 hk;exact hgd
 ·exact(h.pr.grown hg (fun j e=>by have:=far j e;omega)).far hz _
 ·exact grown_new (grown_new h.gr hg (fun j e=>by have:=far j e;omega)) (kept_set _) (fun j e=>by injection e with e;omega)
def DepPost (r:Option (Rch×List UInt8×Nat))(a hi m deep n:Nat)(w:World)(e:Ending)(w':World):Prop:=
 w.grownBy w' (some a)∧match r with
  | none=>∃ (f:ByteArray) (x c:Int),e=.returned (.tuple #[zeroR.val,fltV f x c])∧c≠0
  | some (t,l',n')=>∃ (T:RchM) (m':Nat),e=.returned (.tuple #[T.val,fltV ⟨#[]⟩ 0 0])∧T.pl=t∧TGood T∧TOwn w' w.heap.size none T∧T.ht+deep≤32∧n'=n+T.cnt∧n'≤64∧PR w' a hi l' n' m'∧m'<m
theorem DepPost.no {r:Option (Rch×List UInt8×Nat)}{a hi m deep n:Nat}{w w':World}{f:ByteArray}{x c:Int}(hr:r=none)(hg:w.grownBy w' (some a))(hc:c≠0):DepPost r a hi m deep n w (.returned (.tuple #[zeroR.val,fltV f x c])) w':=by
 subst hr;exact⟨hg,f,x,c,rfl,hc⟩
theorem DepPost.yes {r:Option (Rch×List UInt8×Nat)}{a hi m m' deep n n':Nat}{l':List UInt8}{w w':World}{T:RchM}(hr:r=some (T.pl,l',n'))(hg:w.grownBy w' (some a))(h1:TGood T)(h2:TOwn w' w.heap.size none T)(h3:T.ht+deep≤32)(h4:n'=n+T.cnt)(h5:n'≤64)(h6:PR w' a hi l' n' m')(h7:m'<m):DepPost r a hi m deep n w (.returned (.tuple #[T.val,fltV ⟨#[]⟩ 0 0])) w':=by
 subst hr;exact⟨hg,T,m',rfl,rfl,h1,h2,h3,h4,h5,h6,h7⟩
theorem rGrp_none {f deep n:Nat}{acc:List Rch}{op l:List UInt8}(h:rDep f deep n l=none):rGrp (f+1) deep n acc op l=none:=by unfold rGrp;rw[h]
theorem rGrp_end {f deep n n1:Nat}{acc:List Rch}{op l l1:List UInt8}{k:Rch}(h:rDep f deep n l=some (k,l1,n1))(h1:rLook l1=[41])(h2:acc≠[]):rGrp (f+1) deep n acc op l=some (.node op (acc++[k]),rNext l1,n1):=by
 unfold rGrp;rw[h];simp only;rw[if_pos ⟨h1,h2⟩]
theorem rGrp_more {f deep n n1:Nat}{acc:List Rch}{op l l1:List UInt8}{k:Rch}(h:rDep f deep n l=some (k,l1,n1))(h1:¬ (rLook l1=[41]∧acc≠[]))(h2:rFollows op (acc.length+1) (rLook l1)=true):rGrp (f+1) deep n acc op l=rGrp f deep n1 (acc++[k]) (if acc=[] then rLook l1 else op) (rNext l1):=by
 rw[rGrp,h];simp only;rw[if_neg h1,if_pos h2]
theorem rGrp_bad {f deep n n1:Nat}{acc:List Rch}{op l l1:List UInt8}{k:Rch}(h:rDep f deep n l=some (k,l1,n1))(h1:¬ (rLook l1=[41]∧acc≠[]))(h2:rFollows op (acc.length+1) (rLook l1)=false):rGrp (f+1) deep n acc op l=none:=by
 rw[rGrp,h];simp only;rw[if_neg h1,if_neg (by simp[h2])]
end
section
open Go.RowKit Go.Deep
theorem rdep_fault (t:ByteArray)(q c:Int)(w:World):
  Calls Tryz.prog 129 #[.agg #[.string t,.int .i64 q],.int .i64 c] w fun e w'=>e=.returned (fltV ⟨#[]⟩ q c)∧Below w.heap.size w w':=by
 go_enter Tryz.func129,Tryz.ntmps129
 go_wp2_with fail
 refine bodyPost_ret (v:=fltV ⟨#[]⟩ q c) (by simp[results,Tryz.results129,go_sem,fltV]) rfl ?_
 refine⟨rfl,?_⟩
 repeat' refine below_set ?_ (by omega) _
 exact((Below.refl _ _).alloc lr _).alloc (by simp) _
theorem rdep_next (a hi n m:Nat)(l:List UInt8)(w:World)(h:PR w a hi l n m)(hl:rLook l≠[]):
  Calls Tryz.prog 181 #[.pointer (some ⟨a,0,none⟩)] w fun e w'=>e=.returned (.tuple #[])∧PR w' a hi (rNext l) n (m-1)∧w.grownBy w' (some a)∧2≤m:=by
 obtain⟨b,off,c,T,p,k,hT,h2⟩:=h.cells
 obtain⟨h2,h3⟩:=h2 hl
 have HR:=hid h3
 obtain⟨c0,c1,f0,f1,t0,t1,ne,m1,mc,cz,tz⟩:=k
 simp only[maxLen] at cz
 clear h3 h hl hT
 go_enter Tryz.func181,Tryz.ntmps181
 go_wp2_with fail
 go_end0
 exact⟨rfl,HR.out,kept_set _,h2⟩
abbrev put8 (W:World) (s:Nat) (v0 v1 v2 v3 v4 u0 u1 u2:Value):World:=
 (((((((W.setCell ⟨s,0,none⟩ v0).setCell ⟨s,1,none⟩ v1).setCell ⟨s,2,none⟩ v2).setCell ⟨s,3,none⟩ v3).setCell ⟨s,4,none⟩ v4).setCell ⟨s+1,0,none⟩ u0).setCell ⟨s+1,1,none⟩ u1).setCell ⟨s+1,2,none⟩ u2
theorem put8_grown {w W:World}{a s:Nat}(h:w.grownBy W (some a))(hs:w.heap.size≤s)(v0 v1 v2 v3 v4 u0 u1 u2:Value):w.grownBy (put8 W s v0 v1 v2 v3 v4 u0 u1 u2) (some a):=by
 unfold put8
 repeat' refine only_setCell ?_ (.inr (by simp only;omega)) _
 exact h
theorem put8_pr {W:World}{a hi n m s:Nat}{l:List UInt8}(h:PR W a hi l n m)(hs:hi≤s)(v0 v1 v2 v3 v4 u0 u1 u2:Value):PR (put8 W s v0 v1 v2 v3 v4 u0 u1 u2) a hi l n m:=by
 unfold put8
 repeat' refine PR.far ?_ (by omega) _
 exact h
theorem put8_own {W:World}{lo s:Nat}{bad:Option Nat}{T:RchM}(h:TOwn W lo bad T)(hs:s+1<lo)(v0 v1 v2 v3 v4 u0 u1 u2:Value):TOwn (put8 W s v0 v1 v2 v3 v4 u0 u1 u2) lo bad T:=by
 unfold put8
 repeat' refine TOwn.kept ?_ (by omega) (kept_set _)
 exact h
structure Two (W:World) (s:Nat):Prop where
 b0:Blk W s [.string ⟨#[]⟩,.string ⟨#[]⟩,.int .i64 0,.string ⟨#[]⟩,.slice none 0 0]
 b1:Blk W (s+1) [.string ⟨#[]⟩,.int .i64 0,.int .i64 0]
structure TwoC (W:World) (s:Nat):Prop where
 x0:W.cell? ⟨s,0,none⟩=some (.string ⟨#[]⟩)
 x1:W.cell? ⟨s,1,none⟩=some (.string ⟨#[]⟩)
 x2:W.cell? ⟨s,2,none⟩=some (.int .i64 0)
 x3:W.cell? ⟨s,3,none⟩=some (.string ⟨#[]⟩)
 x4:W.cell? ⟨s,4,none⟩=some (.slice none 0 0)
 y0:W.cell? ⟨s+1,0,none⟩=some (.string ⟨#[]⟩)
 y1:W.cell? ⟨s+1,1,none⟩=some (.int .i64 0)
 y2:W.cell? ⟨s+1,2,none⟩=some (.int .i64 0)
 f0:W.frozen? ⟨s,0,none⟩=false
 f1:W.frozen? ⟨s,1,none⟩=false
 f2:W.frozen? ⟨s,2,none⟩=false
 f3:W.frozen? ⟨s,3,none⟩=false
 f4:W.frozen? ⟨s,4,none⟩=false
 g0:W.frozen? ⟨s+1,0,none⟩=false
 g1:W.frozen? ⟨s+1,1,none⟩=false
 g2:W.frozen? ⟨s+1,2,none⟩=false
theorem Two.c {W:World}{s:Nat}(h:Two W s):TwoC W s:=
 ⟨h.b0.cell 0 _ rfl,h.b0.cell 1 _ rfl,h.b0.cell 2 _ rfl,h.b0.cell 3 _ rfl,h.b0.cell 4 _ rfl,h.b1.cell 0 _ rfl,h.b1.cell 1 _ rfl,h.b1.cell 2 _ rfl,h.b0.free 0 (by simp),h.b0.free 1 (by simp),h.b0.free 2 (by simp),h.b0.free 3 (by simp),h.b0.free 4 (by simp),h.b1.free 0 (by simp),h.b1.free 1 (by simp),h.b1.free 2 (by simp)⟩
theorem Two.step {W W':World}{s a:Nat}(h:Two W s)(hg:W.grownBy W' (some a))(hs:a<s):Two W' s:=
 ⟨h.b0.grownBy hg (by simp;omega),h.b1.grownBy hg (by simp;omega)⟩
theorem Two.below {W W':World}{s:Nat}(h:Two W s)(hb:Below W.heap.size W W'):Two W' s:=⟨h.b0.below hb,h.b1.below hb⟩
theorem Two.new (w:World)(t t':TypeId):Two ((w.alloc (.cells #[.string ⟨#[]⟩,.string ⟨#[]⟩,.int .i64 0,.string ⟨#[]⟩,.slice none 0 0] t)).alloc (.cells #[.string ⟨#[]⟩,.int .i64 0,.int .i64 0] t')) w.heap.size:=by
 refine⟨(Blk.new w _ t).alloc _,?_⟩
 have:=Blk.new (w.alloc (.cells #[.string ⟨#[]⟩,.string ⟨#[]⟩,.int .i64 0,.string ⟨#[]⟩,.slice none 0 0] t)) [.string ⟨#[]⟩,.int .i64 0,.int .i64 0] t'
 simpa using this
theorem atom_res (tmps:Array Value){W:World}{s:Nat}(h:TwoC W s)(h2:tmps[2]?=some (.pointer (some ⟨s,0,none⟩)))(h3:tmps[3]?=some (.pointer (some ⟨s+1,0,none⟩)))(v0 v1 v2 v3 v4 u0 u1 u2:Value)
  (hv:v0.oneCell'=true∧v1.oneCell'=true∧v2.oneCell'=true∧v3.oneCell'=true∧v4.oneCell'=true∧u0.oneCell'=true∧u1.oneCell'=true∧u2.oneCell'=true):
  (results Tryz.f183 tmps).run Tryz.prog (put8 W s v0 v1 v2 v3 v4 u0 u1 u2)=.ok (.tuple #[.agg #[v0,v1,v2,v3,v4],.agg #[u0,u1,u2]]) (put8 W s v0 v1 v2 v3 v4 u0 u1 u2):=by
 obtain⟨x0,x1,x2,x3,x4,y0,y1,y2,_,_,_,_,_,_,_,_⟩:=h
 simp(maxDischargeDepth:=10) [results,Tryz.results183,h2,h3,go_sem,x0,x1,x2,x3,x4,y0,y1,y2]
end
end Go.Proofs.YtdfdllbebfoggaaGreatDoor
