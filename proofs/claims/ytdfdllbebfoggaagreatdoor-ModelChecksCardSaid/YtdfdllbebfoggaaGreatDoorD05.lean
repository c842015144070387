/- A part of the proof that ModelChecks holds. No condition. -/
import Derived.Test.YtdfdllbebfoggaaGreatDoorD02
import Derived.Test.YtdfdllbebfoggaaGreatDoorD03
import Derived.Test.YtdfdllbebfoggaaGreatDoorD04
set_option maxRecDepth 100000
set_option maxHeartbeats 20000000
set_option linter.unusedVariables false
set_option linter.unusedSimpArgs false
namespace Go.Proofs.YtdfdllbebfoggaaGreatDoor
section
open Go.RowKit
def ixB (s:BA)(c:UInt8):Int:=Lib.indexByte (bl s) c
theorem ixB_neg (s:BA)(c:UInt8)(h:(bl s).contains c=false):ixB s c<0:=by
 have:=Lib.contains_iff_indexByte (bl s) c
 rw[h] at this;unfold ixB
 have h2:=of_decide_eq_false this.symm;omega
theorem ixB_pos (s:BA)(c:UInt8)(h:(bl s).contains c=true):0≤ixB s c:=by
 have:=Lib.contains_iff_indexByte (bl s) c
 rw[h] at this;unfold ixB
 exact dO this.symm
theorem IndexByte_any (s:BA)(c:UInt8)(w:World):
  Calls Tryz.prog 82 #[.string s,.int .u8 c.toNat] w fun e w'=>e=.returned (.int .i64 (ixB s c))∧w=w':=
 (Tryz.strings_IndexByte s c.toNat w).mono fun _ _ ⟨he,hw⟩=>⟨by rw[he];simp[ixB,bl],hw.symm⟩
theorem ddep_starts (s:BA)(w:World)(hs:s.size≤9223372036854775807):
  Calls Tryz.prog 81 #[.string s] w fun e w'=>e=.returned (.bool (startsB (bl s)))∧w=w':=by
 by_cases h0:s.size=0
 ·have he:s.toList=[]:=by rw[bl_toList,bl_nil s h0]
  go_enter Tryz.func81,Tryz.ntmps81
  go_wp2
  go_ret
  exact⟨ret_bool (startsB_zero s h0).symm,rfl⟩
 ·have h1:0<s.size:=by omega
  have he:s.toList.isEmpty=false:=by rw[bl_toList,bl_isEmpty];simpa using h0
  have he':¬ s.toList=[]:=by intro h;rw[h] at he;simp at he
  go_enter Tryz.func81,Tryz.ntmps81
  go_wp2
  all_goals go_ret
  all_goals (refine⟨ret_bool ?_,rfl⟩;rw[startsB_pos s h1,bI];simp[lowB,smlB,digB];omega)
theorem ddep_starts_at (s:BA)(k:Nat)(h:k<s.size)(w:World)(hs:s.size≤9223372036854775807):
  Calls Tryz.prog 81 #[.string (s.extract k s.size)] w fun e w'=>e=.returned (.bool (lowB s[k]))∧w=w':=
 (ddep_starts (s.extract k s.size) w (by simp[ByteArray.size_extract];omega)).mono fun _ _ ⟨he,hw⟩=>⟨by rw[he,startsB_drop s k h],hw⟩
theorem ddep_made (s o:BA)(w:World)(hs:s.size≤9223372036854775807):
  Calls Tryz.prog 58 #[.string s,.string o] w fun e w'=>e=.returned (.bool (dmadeB (bl o) (bl s)))∧w=w':=by
 go_enter Tryz.func58,Tryz.ntmps58
 go_wp2
 go_loop [8] (fun i=>∃ k:Nat,k≤s.size∧i=.int .i64 k∧Hid (((bl s).take k).all (fun c=>lowB c||(bl o).contains c)=true)) (fun i=>s.size-(intOf i).toNat)
 case atStart=>exact⟨0,z0,rfl,by simp[Hid]⟩
 case round=>
  obtain⟨k,hk,rfl,hw⟩:=hrel
  by_cases hlt:k<s.size
  ·cases hl:lowB s[k]
   ·cases hc:(bl o).contains s[k]
    ·have hn:=ixB_neg o s[k] hc
     have HC:=hid hc;clear hc
     go_wp2_with (first | (go_at_call 81;refine(ddep_starts_at s k hlt _ hs).mono ?_;rintro e w' ⟨rfl,rfl⟩) | (go_at_call 82;refine(IndexByte_any o s[k] _).mono ?_;rintro e w' ⟨rfl,rfl⟩))
     go_ret
     exact⟨ret_bool (dmade_bad _ s k hlt hl HC.out).symm,rfl⟩
    ·have hn:=ixB_pos o s[k] hc
     have HC:=hid hc;clear hc
     go_wp2_with (first | (go_at_call 81;refine(ddep_starts_at s k hlt _ hs).mono ?_;rintro e w' ⟨rfl,rfl⟩) | (go_at_call 82;refine(IndexByte_any o s[k] _).mono ?_;rintro e w' ⟨rfl,rfl⟩))
     go_round
     case rel=>exact⟨k+1,by omega,by go_num,dmade_next _ s k hlt hw.out (by rw[HC.out];simp)⟩
     case measure=>simp[intOf];omega
   ·go_wp2_with (first | (go_at_call 81;refine(ddep_starts_at s k hlt _ hs).mono ?_;rintro e w' ⟨rfl,rfl⟩))
    go_round
    case rel=>exact⟨k+1,by omega,by go_num,dmade_next _ s k hlt hw.out (by rw[hl];simp)⟩
    case measure=>simp[intOf];omega
  ·go_wp2_with (go_at_call 81;refine(ddep_starts s _ hs).mono ?_;rintro e w' ⟨rfl,rfl⟩)
   go_ret
   exact⟨ret_bool (dmade_good _ s k hlt hw.out).symm,rfl⟩
theorem ddep_Name (s:BA)(w:World)(hs:s.size≤9223372036854775807):
  Calls Tryz.prog 30 #[.string s] w fun e w'=>e=.returned (.bool (dnameB (bl s)))∧w=w':=by
 have hb:=bl_length s
 have HB:=hid hb;clear hb
 by_cases h2:2≤s.size
 ·by_cases h3:s.size≤64
  ·go_enter Tryz.func30,Tryz.ntmps30
   go_wp2_with (go_at_call 58;refine(ddep_made s _ _ hs).mono ?_;rintro e w' ⟨rfl,rfl⟩)
   go_ret
   exact⟨ret_bool (by unfold dnameB;rw[HB.out,dT h2,dT h3];simp[bl]),rfl⟩
  ·go_enter Tryz.func30,Tryz.ntmps30
   go_wp2_with fail
   go_ret
   exact⟨ret_bool (by unfold dnameB;rw[HB.out,dF h3];simp),rfl⟩
 ·go_enter Tryz.func30,Tryz.ntmps30
  go_wp2_with fail
  go_ret
  exact⟨ret_bool (by unfold dnameB;rw[HB.out,dF h2];simp),rfl⟩
theorem version_digit (c:UInt8)(w:World):
  Calls Tryz.prog 115 #[.int .u8 c.toNat] w fun e w'=>e=.returned (.bool (digB c))∧w=w':=by
 go_enter Tryz.func115,Tryz.ntmps115
 go_wp2
 all_goals (go_ret;refine⟨ret_bool ?_,rfl⟩;rw[bI];simp[digB];omega)
theorem version_small (c:UInt8)(w:World):
  Calls Tryz.prog 120 #[.int .u8 c.toNat] w fun e w'=>e=.returned (.bool (smlB c))∧w=w':=by
 go_enter Tryz.func120,Tryz.ntmps120
 go_wp2
 all_goals (go_ret;refine⟨ret_bool ?_,rfl⟩;rw[bI];simp[smlB];omega)
theorem version_letter (c:UInt8)(w:World):
  Calls Tryz.prog 170 #[.int .u8 c.toNat] w fun e w'=>e=.returned (.bool (letB c))∧w=w':=by
 cases h:smlB c
 all_goals
  go_enter Tryz.func170,Tryz.ntmps170
  go_wp2_with (go_at_call 120;refine(version_small _ _).mono ?_;rintro e w' ⟨rfl,rfl⟩)
 all_goals (go_ret;refine⟨ret_bool ?_,rfl⟩;rw[bI];simp[letB,capB,h];try omega)
def runN (p:UInt8→Bool)(l:LU):Nat:=(l.takeWhile p).length
theorem takeWhile_all {p:UInt8→Bool}:∀ (l:LU),l.all p=true→l.takeWhile p=l
 | [],_=>rfl
 | c::r,h=>by
  simp only[List.all_cons,Bool.and_eq_true] at h
  rw[List.takeWhile_cons_of_pos h.1,takeWhile_all r h.2]
theorem runN_stop (p:UInt8→Bool)(s:BA)(k:Nat)(h:k<s.size)(h0:((bl s).take k).all p=true)(h1:p s[k]=false):runN p (bl s)=k:=by
 have hl:k<(bl s).length:=by rw[bl_length];exact h
 have e:bl s=(bl s).take k++(bl s)[k]::(bl s).drop (k+1):=by rw[←List.drop_eq_getElem_cons hl,List.take_append_drop]
 unfold runN
 rw[e,List.takeWhile_append_of_pos (by simpa using h0),bl_get s k h,List.takeWhile_cons_of_neg (by simp[h1])]
 simp;omega
theorem runN_all (p:UInt8→Bool)(s:BA)(k:Nat)(h:¬ k<s.size)(h0:((bl s).take k).all p=true):runN p (bl s)=s.size:=by
 rw[bl_take_ge s k (by omega)] at h0
 unfold runN
 rw[takeWhile_all _ h0,bl_length]
theorem version_run (f:FuncId)(p:UInt8→Bool)(s:BA)(w:World)(hs:s.size≤9223372036854775807)
  (hcall:∀ (args:Array Value)(w:World),(callFunc f args).run Tryz.prog w=.ok (.enter f args) w)
  (hf:Hid (∀ c:UInt8,Calls Tryz.prog f #[.int .u8 c.toNat] w fun e w'=>e=.returned (.bool (p c))∧w=w')):
  Calls Tryz.prog 118 #[.string s,.func (.func f) #[] #[]] w fun e w'=>e=.returned (.int .i64 (runN p (bl s)))∧w=w':=by
 go_enter Tryz.func118,Tryz.ntmps118
 go_wp2
 go_loop [5] (fun i=>∃ k:Nat,k≤s.size∧i=.int .i64 k∧Hid (((bl s).take k).all p=true)) (fun i=>s.size-(intOf i).toNat)
 case atStart=>exact⟨0,z0,rfl,by simp[Hid]⟩
 case round=>
  obtain⟨k,hk,rfl,hw⟩:=hrel
  by_cases hlt:k<s.size
  ·cases hl:p s[k]
   ·have HL:=hid hl;clear hl
    go_wp2_with fail
    refine(hf.out s[k]).mono ?_;rintro e w' ⟨rfl,rfl⟩
    rw[HL.out]
    go_wp2_with fail
    go_ret
    exact⟨ret_int (by rw[runN_stop p s k hlt hw.out HL.out]),rfl⟩
   ·have HL:=hid hl;clear hl
    go_wp2_with fail
    refine(hf.out s[k]).mono ?_;rintro e w' ⟨rfl,rfl⟩
    rw[HL.out]
    go_wp2_with fail
    go_round
    case rel=>exact⟨k+1,by omega,by go_num,by show _=_;rw[bl_take_all s k hlt,hw.out,HL.out];rfl⟩
    case measure=>simp[intOf];omega
  ·go_wp2_with fail
   go_ret
   exact⟨ret_int (by rw[runN_all p s k hlt hw.out];congr;omega),rfl⟩
theorem version_run1 (f:FuncId)(x:Value)(p:UInt8→Bool)(s:BA)(w:World)(hs:s.size≤9223372036854775807)
  (hcall:∀ (args:Array Value)(w:World),(callFunc f args).run Tryz.prog w=.ok (.enter f args) w)
  (hf:Hid (∀ c:UInt8,Calls Tryz.prog f #[.int .u8 c.toNat,x] w fun e w'=>e=.returned (.bool (p c))∧w=w')):
  Calls Tryz.prog 118 #[.string s,.func (.func f) #[] #[x]] w fun e w'=>e=.returned (.int .i64 (runN p (bl s)))∧w=w':=by
 go_enter Tryz.func118,Tryz.ntmps118
 go_wp2
 go_loop [5] (fun i=>∃ k:Nat,k≤s.size∧i=.int .i64 k∧Hid (((bl s).take k).all p=true)) (fun i=>s.size-(intOf i).toNat)
 case atStart=>exact⟨0,z0,rfl,by simp[Hid]⟩
 case round=>
  obtain⟨k,hk,rfl,hw⟩:=hrel
  by_cases hlt:k<s.size
  ·cases hl:p s[k]
   ·have HL:=hid hl;clear hl
    go_wp2_with fail
    refine(hf.out s[k]).mono ?_;rintro e w' ⟨rfl,rfl⟩
    rw[HL.out]
    go_wp2_with fail
    go_ret
    exact⟨ret_int (by rw[runN_stop p s k hlt hw.out HL.out]),rfl⟩
   ·have HL:=hid hl;clear hl
    go_wp2_with fail
    refine(hf.out s[k]).mono ?_;rintro e w' ⟨rfl,rfl⟩
    rw[HL.out]
    go_wp2_with fail
    go_round
    case rel=>exact⟨k+1,by omega,by go_num,by show _=_;rw[bl_take_all s k hlt,hw.out,HL.out];rfl⟩
    case measure=>simp[intOf];omega
  ·go_wp2_with fail
   go_ret
   exact⟨ret_int (by rw[runN_all p s k hlt hw.out];congr;omega),rfl⟩
theorem run_digit (s:BA)(w:World)(hs:s.size≤9223372036854775807):
  Calls Tryz.prog 118 #[.string s,.func (.func 115) #[] #[]] w fun e w'=>e=.returned (.int .i64 (runN digB (bl s)))∧w=w':=
 version_run _ digB s w hs Tryz.call115 (hid fun c=>version_digit c w)
theorem run_small (s:BA)(w:World)(hs:s.size≤9223372036854775807):
  Calls Tryz.prog 118 #[.string s,.func (.func 120) #[] #[]] w fun e w'=>e=.returned (.int .i64 (runN smlB (bl s)))∧w=w':=
 version_run _ smlB s w hs Tryz.call120 (hid fun c=>version_small c w)
structure Pc where
 kind:Int
 text:LU
 word:Int
def Pc.cells (x:Pc):List Value:=[.int .i64 x.kind,.string ⟨x.text.toArray⟩,.int .i64 x.word]
theorem pc_len (x:Pc):x.cells.length=3:=rfl
def aWords:List (LU):=[[97,108,112,104,97],[98,101,116,97],[112,114,101],[114,99],[99,118,115],[115,118,110],[103,105,116],[104,103],[112]]
def ixOf:List (LU)→LU→Option Nat
 | [],_=>none
 | a::r,x=>if a=x then some 0 else (ixOf r x).map (· + 1)
def wordIx (l:LU):Option Nat:=ixOf aWords l
def numsA:Nat→Int→List Pc→LU→Option (List Pc×LU)
 | 0,_,_,_=>none
 | k+1,kind,acc,l=>if runN digB l=0 then none else match l.drop (runN digB l) with
  | 46::r=>numsA k 6 (acc++[⟨kind,l.take (runN digB l),0⟩]) r
  | r=>some (acc++[⟨kind,l.take (runN digB l),0⟩],r)
def lettA (acc:List Pc)(l:LU):List Pc×LU:=match l with
 | c::r=>if smlB c=true then (acc++[⟨5,[c],0⟩],r) else (acc,l)
 | []=>(acc,[])
def sufsA:Nat→List Pc→LU→Option (List Pc×LU)
 | 0,_,_=>none
 | k+1,acc,l=>match l with
  | 95::r=>match wordIx (r.take (runN smlB r)) with
   | none=>none
   | some wd=>sufsA k (acc++[⟨if 4≤wd then 4 else 0,r.take (runN smlB r),wd⟩]++(if 0<runN digB (r.drop (runN smlB r)) then [⟨3,(r.drop (runN smlB r)).take (runN digB (r.drop (runN smlB r))),0⟩] else [])) ((r.drop (runN smlB r)).drop (runN digB (r.drop (runN smlB r))))
  | l=>some (acc,l)
def endA (l:LU)(acc:List Pc)(r:LU):Option (List Pc×LU×LU):=match r with
 | []=>some (acc++[⟨1,[],0⟩],l,[])
 | 45::114::t=>if numB t=true then some (acc++[⟨2,t,0⟩]++[⟨1,[],0⟩],l.take (l.length-r.length),t) else none
 | _=>none
def apkA (l:LU):Option (List Pc×LU×LU):=match numsA (l.length+1) 7 [] l with
 | none=>none
 | some (a,r)=>match sufsA ((lettA a r).2.length+1) (lettA a r).1 (lettA a r).2 with
  | none=>none
  | some (b,t)=>endA l b t
structure PSt (w wr:World) (ps:List Pc) (r:BA):Prop where
 lcell:∃ A c,wr.cell? ⟨w.heap.size,0,none⟩=some (.slice A ps.length c)∧wr.ownsRow (w.heap.size+2) 144 3 (.slice A ps.length c) ps.length (ps.flatMap Pc.cells)
 lfree:wr.frozen? ⟨w.heap.size,0,none⟩=false
 rcell:wr.cell? ⟨w.heap.size+1,0,none⟩=some (.string r)
 rfree:wr.frozen? ⟨w.heap.size+1,0,none⟩=false
 bel:Below w.heap.size w wr
 sz:w.heap.size+2≤wr.heap.size
theorem info_piece:(Tryz.prog.info? 144).map (fun i=>(i.zero,i.size,i.bytes))=some (some (.agg #[.int .i64 0,.string ⟨#[]⟩,.int .i64 0]),3,32):=by kernel_rfl
theorem reads_new3 (w:World)(t:TypeId)(x y z:Value):Reads (w.alloc (.cells #[x,y,z] t)).drew (w.heap.size+1) 3 (some ⟨w.heap.size,0,none⟩) 1 [x,y,z]:=by
 refine⟨rfl,fun _=>⟨_,rfl,by simp,fun j u hu=>?_⟩⟩
 match j,hu with
 | 0,hu=>simp at hu;subst hu;simp[Addr.add]
 | 1,hu=>simp at hu;subst hu;simp[Addr.add]
 | 2,hu=>simp at hu;subst hu;simp[Addr.add]
 | j+3,hu=>simp at hu
theorem PSt.setRest {w wr:World}{ps:List Pc}{r:BA}(h:PSt w wr ps r)(t:BA):PSt w (wr.setCell ⟨w.heap.size+1,0,none⟩ (.string t)) ps t:=by
 obtain⟨⟨A,c,h1,h2⟩,h3,h4,h5,h6,h7⟩:=h
 have hg:wr.grownBy (wr.setCell ⟨w.heap.size+1,0,none⟩ (.string t)) (some (w.heap.size+1)):=only_setCell (World.grownBy.refl wr (some (w.heap.size+1))) (.inl rfl) _
 refine⟨⟨A,c,hg.cell h1 (by simp),h2.kept hg ?_⟩,?_,?_,?_,h6.grown hg h6.size (fun j hj=>by injection hj with hj;omega),Nat.le_trans h7 hg.size⟩
 ·cases hq:(Value.slice A ps.length c).ownBlock with
  | none=>exact .inl rfl
  | some q=>right;intro he;injection he with he;have:=(h2.lt q hq).1;omega
 ·rw[World.frozen?_setCell];exact h3
 ·exact World.cell?_setCell_same' _ _ _ (by rw[h4];rfl)
 ·rw[World.frozen?_setCell];exact h5
theorem pieces_take (w:World)(kind:Int)(n:Nat)(ps:List Pc)(r:BA)(wr:World)(hn:n≤r.size)(hr:r.size≤64)(hps:ps.length≤1000)(hP:PSt w wr ps r):
  Calls Tryz.prog 117 #[.int .i64 kind,.int .i64 n,.pointer (some ⟨w.heap.size,0,none⟩),.pointer (some ⟨w.heap.size+1,0,none⟩)] wr fun e w'=>e=.returned (.tuple #[])∧PSt w w' (ps++[⟨kind,(bl r).take n,0⟩]) (r.extract n r.size):=by
 obtain⟨i0,hi0,hz0,hz1,hz2⟩:=info_parts info_piece
 obtain⟨⟨A,c,h1,h2⟩,h3,h4,h5,h6,h7⟩:=hP
 have HO:=hid h2;have HB:=hid h6
 clear h2 h6
 have NL:Hid (some w.heap.size≠(Value.slice A ps.length c).ownBlock):=by intro he;have:=(HO.out.lt _ he.symm).1;omega
 have NR:Hid (some (w.heap.size+1)≠(Value.slice A ps.length c).ownBlock):=by intro he;have:=(HO.out.lt _ he.symm).1;omega
 have i1:(n:Int)≤(r.size:Int):=by omega
 have hl0:w.heap.size<wr.heap.size:=by omega
 have hl1:w.heap.size+1<wr.heap.size:=by omega
 go_enter Tryz.func117,Tryz.ntmps117
 go_wp2_with fail
 have hn3:¬ w.heap.size=wr.heap.size:=by omega
 have hn4:¬ w.heap.size+1=wr.heap.size:=by omega
 have CL:Hid ((wr.alloc (.cells #[.int .i64 kind,.string (r.extract 0 n),.int .i64 0] 144)).drew.cell? ⟨w.heap.size,0,none⟩=some (.slice A ps.length c)):=(World.cell?_alloc_lt wr _ ⟨w.heap.size,0,none⟩ hl0).trans h1
 have FL:Hid ((wr.alloc (.cells #[.int .i64 kind,.string (r.extract 0 n),.int .i64 0] 144)).drew.frozen? ⟨w.heap.size,0,none⟩=false):=((bR.alloc lr _).frozen (p:=⟨w.heap.size,0,none⟩) hl0).trans h3
 have CR:Hid ((wr.alloc (.cells #[.int .i64 kind,.string (r.extract 0 n),.int .i64 0] 144)).drew.cell? ⟨w.heap.size+1,0,none⟩=some (.string r)):=(World.cell?_alloc_lt wr _ ⟨w.heap.size+1,0,none⟩ hl1).trans h4
 have FR:Hid ((wr.alloc (.cells #[.int .i64 kind,.string (r.extract 0 n),.int .i64 0] 144)).drew.frozen? ⟨w.heap.size+1,0,none⟩=false):=((bR.alloc lr _).frozen (p:=⟨w.heap.size+1,0,none⟩) hl1).trans h5
 go_region_law
  ((refine step_append_any _ (by rfl) _ _ _ (by rfl) (w.heap.size+2) 144 i0 _ 3 32 Tryz.underlying110 hi0 hz0 hz1 hz2 rfl (by omega) (.slice A ps.length c) ps.length _ (by rfl) ((HO.out.alloc _).drew)
     (wr.heap.size+1) (some ⟨wr.heap.size,0,none⟩) 1 1 [.int .i64 kind,.string (r.extract 0 n),.int .i64 0] (by rfl) (reads_new3 wr _ _ _ _) (by simp[Value.oneCell']) (by unfold maxLen;omega) (by omega) (by simp;omega) ?_
    intro v1 w2 o2 g2 a2
    obtain⟨A1,c1,rfl⟩:=owns_form o2
    have cl2:w2.cell? ⟨w.heap.size,0,none⟩=some (.slice A ps.length c):=g2.cell CL.out NL.out
    have fl2:w2.frozen? ⟨w.heap.size,0,none⟩=false:=(World.frozen?_of_block (a:=⟨w.heap.size,0,none⟩) (g2.block w.heap.size (by simp;omega) NL.out)).trans FL.out
    have cr2:w2.cell? ⟨w.heap.size+1,0,none⟩=some (.string r):=g2.cell CR.out NR.out
    have fr2:w2.frozen? ⟨w.heap.size+1,0,none⟩=false:=(World.frozen?_of_block (a:=⟨w.heap.size+1,0,none⟩) (g2.block (w.heap.size+1) (by simp;omega) NR.out)).trans FR.out))
 all_goals
  go_wp2_with fail
  have P1:PSt w (w2.setCell ⟨w.heap.size,0,none⟩ (.slice A1 (ps.length+1) c1)) (ps++[⟨kind,(bl r).take n,0⟩]) r:=by
   have hg:w2.grownBy (w2.setCell ⟨w.heap.size,0,none⟩ (.slice A1 (ps.length+1) c1)) (some w.heap.size):=only_setCell (World.grownBy.refl w2 (some w.heap.size)) (.inl rfl) _
   have e1:(ps++[(⟨kind,(bl r).take n,0⟩:Pc)]).length=ps.length+1:=by simp
   have e2:(ps++[(⟨kind,(bl r).take n,0⟩:Pc)]).flatMap Pc.cells=ps.flatMap Pc.cells++[.int .i64 kind,.string (r.extract 0 n),.int .i64 0]:=by
    rw[List.flatMap_append]
    congr 1
    simp only[List.flatMap_cons,List.flatMap_nil,List.append_nil,Pc.cells]
    rw[show(⟨((bl r).take n).toArray⟩:BA)=r.extract 0 n from by apply bl_inj;rw[bl_mk,bl_take]]
   have b2:Below w.heap.size w w2:=(below_drewN (HB.out.alloc HB.out.size _) 1).grown g2 (by simp;omega) (fun j hj=>by have:=(HO.out.lt j hj).1;omega)
   refine⟨⟨A1,c1,by rw[e1];exact World.cell?_setCell_same' _ _ _ (by rw[cl2];rfl),?_⟩,by rw[World.frozen?_setCell];exact fl2,hg.cell cr2 (by simp),by rw[World.frozen?_setCell];exact fr2,b2.grown hg b2.size (fun j hj=>by injection hj with hj;omega),?_⟩
   ·rw[e1,e2]
    refine o2.kept hg ?_
    cases hq:(Value.slice A1 (ps.length+1) c1).ownBlock with
    | none=>exact .inl rfl
    | some q=>right;intro he;injection he with he;have:=(o2.lt q hq).1;omega
   ·have z1:=g2.size;have z2:=hg.size;simp at z1;omega
  go_end0
  exact⟨rfl,P1.setRest _⟩
end
end Go.Proofs.YtdfdllbebfoggaaGreatDoor
