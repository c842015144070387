/- A part of the proof that ModelPackages holds. No condition. -/
import Derived.Lib.SplitLaws
import Derived.Test.YtdfdllbebfoggaaGreatDoorC00
set_option maxRecDepth 100000
set_option maxHeartbeats 20000000
set_option linter.unusedVariables false
set_option linter.unusedSimpArgs false
namespace Go.Proofs.YtdfdllbebfoggaaGreatDoor
section
open Go.RowKit
theorem version_digit (c:UInt8)(w:World):
  Calls Tryz.prog 115 #[.int .u8 c.toNat] w fun e w'=>e=.returned (.bool (digB c))∧w=w':=by
 go_enter Tryz.func115,Tryz.ntmps115
 go_wp2
 all_goals (go_ret;refine⟨ret_bool ?_,rfl⟩;rw[Bool.eq_iff_iff];simp[digB];omega)
theorem version_small (c:UInt8)(w:World):
  Calls Tryz.prog 120 #[.int .u8 c.toNat] w fun e w'=>e=.returned (.bool (smlB c))∧w=w':=by
 go_enter Tryz.func120,Tryz.ntmps120
 go_wp2
 all_goals (go_ret;refine⟨ret_bool ?_,rfl⟩;rw[Bool.eq_iff_iff];simp[smlB];omega)
theorem version_letter (c:UInt8)(w:World):
  Calls Tryz.prog 170 #[.int .u8 c.toNat] w fun e w'=>e=.returned (.bool (letB c))∧w=w':=by
 cases h:smlB c
 all_goals
  go_enter Tryz.func170,Tryz.ntmps170
  go_wp2_with (go_at_call 120;refine(version_small _ _).mono ?_;rintro e w' ⟨rfl,rfl⟩)
 all_goals (go_ret;refine⟨ret_bool ?_,rfl⟩;rw[Bool.eq_iff_iff];simp[letB,capB,h];try omega)
def runN (p:UInt8→Bool)(l:List UInt8):Nat:=(l.takeWhile p).length
theorem takeWhile_all {p:UInt8→Bool}:∀ (l:List UInt8),l.all p=true→l.takeWhile p=l
 | [],_=>rfl
 | c::r,h=>by
  simp only[List.all_cons,Bool.and_eq_true] at h
  rw[List.takeWhile_cons_of_pos h.1,takeWhile_all r h.2]
theorem runN_stop (p:UInt8→Bool)(s:ByteArray)(k:Nat)(h:k<s.size)(h0:((bl s).take k).all p=true)(h1:p s[k]=false):runN p (bl s)=k:=by
 have hl:k<(bl s).length:=by rw[bl_length];exact h
 have e:bl s=(bl s).take k++(bl s)[k]::(bl s).drop (k+1):=by rw[←List.drop_eq_getElem_cons hl,List.take_append_drop]
 unfold runN
 rw[e,List.takeWhile_append_of_pos (by simpa using h0),bl_get s k h,List.takeWhile_cons_of_neg (by simp[h1])]
 simp;omega
theorem runN_all (p:UInt8→Bool)(s:ByteArray)(k:Nat)(h:¬ k<s.size)(h0:((bl s).take k).all p=true):runN p (bl s)=s.size:=by
 rw[bl_take_ge s k (by omega)] at h0
 unfold runN
 rw[takeWhile_all _ h0,bl_length]
theorem version_run (f:FuncId)(p:UInt8→Bool)(s:ByteArray)(w:World)(hs:s.size≤9223372036854775807)
  (hcall:∀ (args:Array Value)(w:World),(callFunc f args).run Tryz.prog w=.ok (.enter f args) w)
  (hf:Hid (∀ c:UInt8,Calls Tryz.prog f #[.int .u8 c.toNat] w fun e w'=>e=.returned (.bool (p c))∧w=w')):
  Calls Tryz.prog 118 #[.string s,.func (.func f) #[] #[]] w fun e w'=>e=.returned (.int .i64 (runN p (bl s)))∧w=w':=by
 go_enter Tryz.func118,Tryz.ntmps118
 go_wp2
 go_loop [5] (fun i=>∃ k:Nat,k≤s.size∧i=.int .i64 k∧Hid (((bl s).take k).all p=true)) (fun i=>s.size-(intOf i).toNat)
 case atStart=>exact⟨0,Nat.zero_le _,rfl,by simp[Hid]⟩
 case round=>
  obtain⟨k,hk,rfl,hw⟩:=hrel
  by_cases hlt:k<s.size
  ·cases hl:p s[k]
   ·have HL:=hid hl;clear hl
    go_wp2_with fail
    refine(hf.out s[k]).mono ?_;rintro e w' ⟨rfl,rfl⟩
    rw[HL.out]
    go_wp2_with fail
    go_ret
    exact⟨ret_int (by rw[runN_stop p s k hlt hw.out HL.out]),rfl⟩
   ·have HL:=hid hl;clear hl
    go_wp2_with fail
    refine(hf.out s[k]).mono ?_;rintro e w' ⟨rfl,rfl⟩
    rw[HL.out]
    go_wp2_with fail
    go_round
    case rel=>exact⟨k+1,by omega,by go_num,by show _=_;rw[bl_take_all s k hlt,hw.out,HL.out];rfl⟩
    case measure=>simp[intOf];omega
  ·go_wp2_with fail
   go_ret
   exact⟨ret_int (by rw[runN_all p s k hlt hw.out];congr;omega),rfl⟩
theorem version_run1 (f:FuncId)(x:Value)(p:UInt8→Bool)(s:ByteArray)(w:World)(hs:s.size≤9223372036854775807)
  (hcall:∀ (args:Array Value)(w:World),(callFunc f args).run Tryz.prog w=.ok (.enter f args) w)
  (hf:Hid (∀ c:UInt8,Calls Tryz.prog f #[.int .u8 c.toNat,x] w fun e w'=>e=.returned (.bool (p c))∧w=w')):
  Calls Tryz.prog 118 #[.string s,.func (.func f) #[] #[x]] w fun e w'=>e=.returned (.int .i64 (runN p (bl s)))∧w=w':=by
 go_enter Tryz.func118,Tryz.ntmps118
 go_wp2
 go_loop [5] (fun i=>∃ k:Nat,k≤s.size∧i=.int .i64 k∧Hid (((bl s).take k).all p=true)) (fun i=>s.size-(intOf i).toNat)
 case atStart=>exact⟨0,Nat.zero_le _,rfl,by simp[Hid]⟩
 case round=>
  obtain⟨k,hk,rfl,hw⟩:=hrel
  by_cases hlt:k<s.size
  ·cases hl:p s[k]
   ·have HL:=hid hl;clear hl
    go_wp2_with fail
    refine(hf.out s[k]).mono ?_;rintro e w' ⟨rfl,rfl⟩
    rw[HL.out]
    go_wp2_with fail
    go_ret
    exact⟨ret_int (by rw[runN_stop p s k hlt hw.out HL.out]),rfl⟩
   ·have HL:=hid hl;clear hl
    go_wp2_with fail
    refine(hf.out s[k]).mono ?_;rintro e w' ⟨rfl,rfl⟩
    rw[HL.out]
    go_wp2_with fail
    go_round
    case rel=>exact⟨k+1,by omega,by go_num,by show _=_;rw[bl_take_all s k hlt,hw.out,HL.out];rfl⟩
    case measure=>simp[intOf];omega
  ·go_wp2_with fail
   go_ret
   exact⟨ret_int (by rw[runN_all p s k hlt hw.out];congr;omega),rfl⟩
theorem run_digit (s:ByteArray)(w:World)(hs:s.size≤9223372036854775807):
  Calls Tryz.prog 118 #[.string s,.func (.func 115) #[] #[]] w fun e w'=>e=.returned (.int .i64 (runN digB (bl s)))∧w=w':=
 version_run _ digB s w hs Tryz.call115 (hid fun c=>version_digit c w)
theorem run_small (s:ByteArray)(w:World)(hs:s.size≤9223372036854775807):
  Calls Tryz.prog 118 #[.string s,.func (.func 120) #[] #[]] w fun e w'=>e=.returned (.int .i64 (runN smlB (bl s)))∧w=w':=
 version_run _ smlB s w hs Tryz.call120 (hid fun c=>version_small c w)
end
section
open Go.RowKit
def Rd (w:World)(sz:Nat)(A:Option Addr)(n:Nat)(xs:List Value):Prop:=
 xs.length=n*sz∧(0<n→∃ b off,A=some ⟨b,off,none⟩∧∀ (j:Nat)(u:Value),xs[j]?=some u→w.cell? ⟨b,off+j,none⟩=some u)
theorem Rd.nil (w:World)(sz:Nat)(A:Option Addr):Rd w sz A 0 []:=⟨by simp,fun h=>absurd h (by omega)⟩
theorem Rd.keep {w w':World}{sz n:Nat}{A:Option Addr}{xs:List Value}(h:Rd w sz A n xs)(hk:∀ p:Addr,p.block<w.heap.size→w'.cell? p=w.cell? p):Rd w' sz A n xs:=
 ⟨h.1,fun hn=>by
  obtain⟨b,off,e,hc⟩:=h.2 hn
  exact⟨b,off,e,fun j u hu=>(hk _ (World.block_lt_of_cell? _ _ (hc j u hu))).trans (hc j u hu)⟩⟩
theorem Rd.below {w w':World}{sz n:Nat}{A:Option Addr}{xs:List Value}(h:Rd w sz A n xs)(hb:Below w.heap.size w w'):Rd w' sz A n xs:=h.keep fun _ hp=>hb.cell hp
structure AtomM where
 nm:ByteArray
 op:Int
 ver:ByteArray
structure FileM where
 path:ByteArray
 kind:Int
 mode:Int
 owner:ByteArray
 group:ByteArray
 link:ByteArray
 sum:ByteArray
 conf:Bool
structure ScriptM where
 phase:Int
 body:ByteArray
structure PkL where
 nm:ByteArray
 ver:ByteArray
 ar:ByteArray
 sm:ByteArray
 na:Option Addr
 nc:Nat
 needs:List ByteArray
 ba:Option Addr
 bc:Nat
 bars:List ByteArray
 ga:Option Addr
 gc:Nat
 gives:List AtomM
 fa:Option Addr
 fc:Nat
 files:List FileM
 sa:Option Addr
 sc:Nat
 scripts:List ScriptM
def AtomM.cells (x:AtomM):List Value:=[.string x.nm,.int .i64 x.op,.string x.ver]
def FileM.cells (x:FileM):List Value:=[.string x.path,.int .i64 x.kind,.int .i64 x.mode,.string x.owner,.string x.group,.string x.link,.string x.sum,.bool x.conf]
def ScriptM.cells (x:ScriptM):List Value:=[.int .i64 x.phase,.string x.body]
def strCells (l:List ByteArray):List Value:=l.map .string
def PkL.cells (p:PkL):List Value:=[.string p.nm,.string p.ver,.string p.ar,.string p.sm,.slice p.na p.needs.length p.nc,.slice p.ba p.bars.length p.bc,.slice p.ga p.gives.length p.gc,.slice p.fa p.files.length p.fc,.slice p.sa p.scripts.length p.sc]
def PkL.val (p:PkL):Value:=.agg #[.string p.nm,.string p.ver,.string p.ar,.string p.sm,.slice p.na p.needs.length p.nc,.slice p.ba p.bars.length p.bc,.slice p.ga p.gives.length p.gc,.slice p.fa p.files.length p.fc,.slice p.sa p.scripts.length p.sc]
structure PkL.ok (p:PkL) (w:World):Prop where
 needs:Rd w 1 p.na p.needs.length (strCells p.needs)
 bars:Rd w 1 p.ba p.bars.length (strCells p.bars)
 gives:Rd w 3 p.ga p.gives.length (p.gives.flatMap AtomM.cells)
 files:Rd w 8 p.fa p.files.length (p.files.flatMap FileM.cells)
 scripts:Rd w 2 p.sa p.scripts.length (p.scripts.flatMap ScriptM.cells)
theorem PkL.ok.below {p:PkL}{w w':World}(h:p.ok w)(hb:Below w.heap.size w w'):p.ok w':=⟨h.1.below hb,h.2.below hb,h.3.below hb,h.4.below hb,h.5.below hb⟩
structure PkL.fits (p:PkL):Prop where
 nm:p.nm.size≤9223372036854775807
 ver:p.ver.size≤9223372036854775807
 ar:p.ar.size≤9223372036854775807
 sm:p.sm.size≤9223372036854775807
 needs:p.needs.length≤9223372036854775807
 bars:p.bars.length≤9223372036854775807
 gives:p.gives.length≤9223372036854775807
 files:p.files.length≤9223372036854775807
 scripts:p.scripts.length≤9223372036854775807
 needs_:∀ s∈p.needs,s.size≤9223372036854775807
 bars_:∀ s∈p.bars,s.size≤9223372036854775807
 gives_:∀ x∈p.gives,x.nm.size≤9223372036854775807∧x.ver.size≤9223372036854775807∧(Lit.int .i64 x.op).wf=true
 files_:∀ x∈p.files,x.path.size≤9223372036854775807∧x.owner.size≤9223372036854775807∧x.group.size≤9223372036854775807∧x.link.size≤9223372036854775807∧x.sum.size≤9223372036854775807∧(Lit.int .i64 x.kind).wf=true∧(Lit.int .i64 x.mode).wf=true
 scripts_:∀ x∈p.scripts,x.body.size≤9223372036854775807∧(Lit.int .i64 x.phase).wf=true
theorem flat_at {α:Type}{f:α→List Value}{sz:Nat}(hf:∀ x,(f x).length=sz):∀ (l:List α)(i j:Nat)(x:α),l[i]?=some x→j<sz→(l.flatMap f)[i*sz+j]?=(f x)[j]?
 | [],i,j,x,h,_=>by simp at h
 | a::r,0,j,x,h,hj=>by
  simp at h;subst h
  rw[List.flatMap_cons,List.getElem?_append_left (by rw[hf];omega)];simp
 | a::r,i+1,j,x,h,hj=>by
  have h':r[i]?=some x:=by simpa using h
  rw[List.flatMap_cons,List.getElem?_append_right (by rw[hf,Nat.add_mul];omega),hf,←flat_at hf r i j x h' hj]
  congr 1;rw[Nat.add_mul];omega
theorem flat_length {α:Type}{f:α→List Value}{sz:Nat}(hf:∀ x,(f x).length=sz):∀ (l:List α),(l.flatMap f).length=l.length*sz
 | []=>by simp
 | a::r=>by rw[List.flatMap_cons,List.length_append,hf,flat_length hf r,List.length_cons,Nat.add_mul];omega
theorem atom_len (x:AtomM):x.cells.length=3:=rfl
theorem file_len (x:FileM):x.cells.length=8:=rfl
theorem script_len (x:ScriptM):x.cells.length=2:=rfl
theorem pk_len (x:PkL):x.cells.length=9:=rfl
theorem Rd.elem {α:Type}{f:α→List Value}{sz:Nat}(hf:∀ x,(f x).length=sz){w:World}{A:Option Addr}{l:List α}(h:Rd w sz A l.length (l.flatMap f))(i:Nat)(x:α)(hi:l[i]?=some x):
  ∃ b off,A=some ⟨b,off,none⟩∧∀ (j:Nat)(u:Value),(f x)[j]?=some u→w.cell? ⟨b,off+i*sz+j,none⟩=some u:=by
 have hlt:i<l.length:=(List.getElem?_eq_some_iff.1 hi).1
 obtain⟨b,off,e,hc⟩:=h.2 (by omega)
 refine⟨b,off,e,fun j u hu=>?_⟩
 have hj:j<sz:=by rw[←hf x];exact(List.getElem?_eq_some_iff.1 hu).1
 rw[Nat.add_assoc]
 exact hc _ u (by rw[flat_at hf l i j x hi hj,hu])
theorem Rd.str {w:World}{A:Option Addr}{l:List ByteArray}(h:Rd w 1 A l.length (strCells l))(i:Nat)(x:ByteArray)(hi:l[i]?=some x):
  ∃ b off,A=some ⟨b,off,none⟩∧w.cell? ⟨b,off+i,none⟩=some (.string x):=by
 have hlt:i<l.length:=(List.getElem?_eq_some_iff.1 hi).1
 obtain⟨b,off,e,hc⟩:=h.2 (by omega)
 exact⟨b,off,e,hc i _ (by simp[strCells,hi])⟩
end
section
open Go.RowKit
theorem only_drewN {a w:World}{row:Option Nat}(h:a.grownBy w row)(n:Nat):a.grownBy (w.drewN n) row:=⟨h.os,h.tape,h.output,h.size,h.block⟩
theorem only_alloc {a w:World}{row:Option Nat}(h:a.grownBy w row)(o:Obj):a.grownBy (w.alloc o) row:=
 ⟨h.os,h.tape,h.output,Nat.le_trans h.size (by simp),fun i hi hne=>(Below.heap_alloc w o i (Nat.lt_of_lt_of_le hi h.size)).trans (h.block i hi hne)⟩
theorem only_setCell {a w:World}{g:Nat}(h:a.grownBy w (some g)){p:Addr}(hp:p.block=g∨a.heap.size≤p.block)(u:Value):a.grownBy (w.setCell p u) (some g):=
 ⟨h.os,h.tape,h.output,by simpa [World.setCell] using h.size,fun i hi hne=>(Below.heap_setCell w p u i (by
  rintro rfl
  rcases hp with hp | hp
  ·exact hne (by rw[hp])
  ·omega)).trans (h.block i hi hne)⟩
theorem only_below {a w w':World}{row:Option Nat}(h:a.grownBy w row)(hb:Below w.heap.size w w'):a.grownBy w' row:=
 ⟨hb.os.trans h.os,hb.tape.trans h.tape,hb.output.trans h.output,Nat.le_trans h.size hb.size,fun i hi hn=>(hb.block i (Nat.lt_of_lt_of_le hi h.size)).trans (h.block i hi hn)⟩
theorem owns_below {w w':World}{base:Nat}{e:TypeId}{size n:Nat}{v:Value}{xs:List Value}(h:w.ownsRow base e size v n xs)(hb:Below w.heap.size w w'):w'.ownsRow base e size v n xs:=by
 refine⟨h.1,?_⟩
 rcases h.2 with h0 | ⟨g,cap,cur,hv,hg,hh,h1,h2,h3,h4⟩
 ·exact .inl h0
 ·exact .inr ⟨g,cap,cur,hv,hg,(hb.block g (Array.getElem?_eq_some_iff.1 hh).1).trans hh,h1,h2,h3,h4⟩
theorem owns_form {w:World}{base:Nat}{e:TypeId}{size n:Nat}{v:Value}{xs:List Value}(h:w.ownsRow base e size v n xs):∃ A c,v=.slice A n c:=by
 rcases h.2 with⟨rfl,rfl⟩ | ⟨g,cap,cur,hv,_⟩
 ·exact⟨none,0,rfl⟩
 ·exact⟨_,_,hv⟩
theorem owns_base {w:World}{base base':Nat}{e:TypeId}{size n:Nat}{v:Value}{xs:List Value}(h:w.ownsRow base e size v n xs)(hb:base'≤base):w.ownsRow base' e size v n xs:=by
 refine⟨h.1,?_⟩
 rcases h.2 with h0 | ⟨g,cap,cur,hv,hg,r⟩
 ·exact .inl h0
 ·exact .inr ⟨g,cap,cur,hv,Nat.le_trans hb hg,r⟩
theorem owns_rd {w:World}{base:Nat}{e:TypeId}{size n c:Nat}{A:Option Addr}{xs:List Value}(h:w.ownsRow base e size (.slice A n c) n xs):Rd w size A n xs:=by
 refine⟨h.1,fun hn=>?_⟩
 obtain⟨g,cap,hv,_,hlt⟩:=h.form hn
 have hA:A=some ⟨g,0,none⟩:=by injection hv
 subst hA
 refine⟨g,0,rfl,fun j u hu=>?_⟩
 have:=h.cells (g:=g) rfl j u hu
 unfold Addr.add at this
 rw[Nat.zero_add]
 split at this
 ·rename_i h0;subst h0;exact this
 ·simpa using this
theorem owns_kept {w w':World}{lo g:Nat}{e:TypeId}{size n:Nat}{v:Value}{xs:List Value}(h:w.ownsRow lo e size v n xs)(hlo:g<lo)(hg:w.grownBy w' (some g)):w'.ownsRow lo e size v n xs:=by
 refine h.kept hg ?_
 cases hb:v.ownBlock with
 | none=>exact .inl rfl
 | some k=>right;intro he;have:=(h.lt k hb).1;injection he with he;omega
theorem grown_thru {a b c:World}{row:Option Nat}(h:a.grownBy b row)(k:b.grownBy c row):a.grownBy c row:=
 ⟨k.os.trans h.os,k.tape.trans h.tape,k.output.trans h.output,Nat.le_trans h.size k.size,fun i hi hn=>(k.block i (Nat.lt_of_lt_of_le hi h.size) hn).trans (h.block i hi hn)⟩
theorem below_grown {w a b:World}{g:Nat}(h:Below w.heap.size w a)(k:a.grownBy b (some g))(hg:w.heap.size≤g):Below w.heap.size w b:=
 h.grown k h.size (fun j hj=>by injection hj with hj;omega)
end
def psplit:List UInt8→List (List UInt8)
 | []=>[[]]
 | c::r=>if c=47 then []::psplit r else ((c::(psplit r).headD [])::(psplit r).tail)
theorem psplit_ne:∀ l,psplit l≠[]
 | []=>by simp[psplit]
 | c::r=>by unfold psplit;split<;>simp
theorem psplit_cons_ne {c:UInt8}(h:c≠47)(r:List UInt8):∃ p ps,psplit r=p::ps∧psplit (c::r)=(c::p)::ps:=by
 cases hr:psplit r with
 | nil=>exact absurd hr (psplit_ne r)
 | cons p ps=>exact⟨p,ps,rfl,by rw[psplit,if_neg h,hr];rfl⟩
theorem psplit_none:∀ (l:List UInt8),(47:UInt8) ∉ l→psplit l=[l]
 | [],_=>rfl
 | c::r,h=>by
  have hc:c≠47:=fun e=>h (by rw[e];simp)
  obtain⟨p,ps,h1,h2⟩:=psplit_cons_ne hc r
  rw[psplit_none r (fun hm=>h (List.mem_cons_of_mem _ hm))] at h1
  injection h1 with h3 h4
  rw[h2,←h3,←h4]
theorem psplit_hit:∀ (k:Nat)(l:List UInt8),(47:UInt8) ∉ l.take k→l[k]?=some 47→psplit l=l.take k::psplit (l.drop (k+1))
 | k,[],_,h=>by simp at h
 | 0,c::r,_,h=>by
  simp at h;subst h
  simp[psplit]
 | k+1,c::r,hn,h=>by
  have hc:c≠47:=fun e=>hn (by rw[e];simp)
  obtain⟨p,ps,h1,h2⟩:=psplit_cons_ne hc r
  rw[psplit_hit k r (fun hm=>hn (by rw[List.take_succ_cons];exact List.mem_cons_of_mem _ hm)) (by simpa using h)] at h1
  injection h1 with h3 h4
  rw[h2,←h3,←h4];simp
theorem splitK_psplit:∀ (n:Nat)(l:List UInt8),l.count 47=n→Lib.splitK [47] 0 n l=psplit l
 | 0,l,h=>by
  rw[psplit_none l (List.count_eq_zero.1 h)];rfl
 | n+1,l,h=>by
  have hm:(47:UInt8)∈l:=List.count_pos_iff.1 (by omega)
  unfold Lib.splitK
  rw[Lib.index_one]
  obtain⟨k,hk,hn,hg⟩:=indexByte_mem 47 l hm
  rw[hk,if_neg (by simp;try omega),psplit_hit k l hn hg]
  have e:((k:Int)).toNat=k:=by omega
  rw[e]
  congr 1
  simp only[List.length_singleton]
  refine splitK_psplit n (l.drop (k+1)) ?_
  have hkl:k<l.length:=(List.getElem?_eq_some_iff.1 hg).1
  have hd:l=l.take k++47::l.drop (k+1):=by
   have h47:l[k]=47:=(List.getElem?_eq_some_iff.1 hg).2
   rw[←h47,←List.drop_eq_getElem_cons hkl,List.take_append_drop]
  rw[hd,List.count_append,List.count_eq_zero.2 hn,List.count_cons_self] at h
  simp at h ⊢
  omega
 where
 indexByte_mem (c:UInt8):∀ (l:List UInt8),c∈l→∃ k:Nat,Lib.indexByte l c=k∧c ∉ l.take k∧l[k]?=some c
  | [],h=>by simp at h
  | b::r,h=>by
   by_cases hb:b=c
   ·subst hb;exact⟨0,by simp[Lib.indexByte],by simp,by simp⟩
   ·have hr:c∈r:=by rcases List.mem_cons.1 h with h | h;exact absurd h.symm hb;exact h
    obtain⟨k,h1,h2,h3⟩:=indexByte_mem c r hr
    refine⟨k+1,?_,?_,by simpa using h3⟩
    ·have:(b==c)=false:=by simp[hb]
     simp only[Lib.indexByte,this,h1]
     rw[if_neg (by simp),if_neg (by simp;try omega)];rfl
    ·rw[List.take_succ_cons];intro hm;rcases List.mem_cons.1 hm with hm | hm;exact hb hm.symm;exact h2 hm
def partB (p:List UInt8):Bool:=!(decide (p=[])||decide (p=[46])||decide (p=[46,46]))
def pathB (l:List UInt8):Bool:=decide (1≤l.length)&&decide (l.length≤200) && !l.contains 0&&(psplit l).all partB
def parentL (l:List UInt8):Option (List UInt8):=if pathB l then (lastL 47 l).map (l.take ·) else none
theorem psplit_last:∀ (l:List UInt8),(lastL 47 l=none→psplit l=[l])∧∀ i,lastL 47 l=some i→2≤(psplit l).length∧(psplit l).getLast?=some (l.drop (i+1))
 | []=>⟨fun _=>rfl,fun i h=>by simp[lastL] at h⟩
 | c::r=>by
  obtain⟨h0,h1⟩:=psplit_last r
  cases hr:lastL 47 r with
  | none=>
   have hp:=h0 hr
   by_cases hc:c=47
   ·subst hc
    have e:lastL 47 (47::r)=some 0:=by simp[lastL,hr]
    rw[e]
    refine⟨fun h=>(by cases h),fun i h=>?_⟩
    injection h with h;subst h
    rw[psplit,if_pos rfl,hp];simp
   ·have e:lastL 47 (c::r)=none:=by simp[lastL,hr,hc]
    rw[e]
    refine⟨fun _=>?_,fun i h=>by cases h⟩
    rw[psplit,if_neg hc,hp];simp
  | some k=>
   obtain⟨h2,h3⟩:=h1 k hr
   have e:lastL 47 (c::r)=some (k+1):=by simp[lastL,hr]
   rw[e]
   refine⟨fun h=>(by cases h),fun i h=>?_⟩
   injection h with h;subst h
   have hd:(c::r).drop (k+1+1)=r.drop (k+1):=rfl
   rw[hd]
   by_cases hc:c=47
   ·rw[psplit,if_pos hc]
    refine⟨by simp;omega,?_⟩
    rw[List.getLast?_cons,h3];rfl
   ·obtain⟨p,ps,h4,h5⟩:=psplit_cons_ne hc r
    rw[h4] at h2 h3
    rw[h5]
    refine⟨by simpa using h2,?_⟩
    cases ps with
    | nil=>simp at h2
    | cons q qs=>rw[List.getLast?_cons_cons] at h3 ⊢;exact h3
section
open Go.RowKit
open Classical
def fpaths (l:List FileM):List ByteArray:=l.map (·.path)
end
end Go.Proofs.YtdfdllbebfoggaaGreatDoor
