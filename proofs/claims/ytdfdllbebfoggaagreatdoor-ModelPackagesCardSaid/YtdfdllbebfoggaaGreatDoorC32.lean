/- A part of the proof that ModelPackages holds. No condition. -/
import Derived.Test.YtdfdllbebfoggaaGreatDoorC25
import Derived.Test.YtdfdllbebfoggaaGreatDoorC30
set_option maxRecDepth 100000
set_option maxHeartbeats 20000000
set_option linter.unusedVariables false
set_option linter.unusedSimpArgs false
namespace Go.Proofs.YtdfdllbebfoggaaGreatDoor
section
open Go.RowKit Go.Deep
structure SRow (w wr:World) (xs:List ByteArray) (A:Option Addr) (n c:Nat):Prop where
 len:xs.length=n
 row:wr.ownsRow w.heap.size 9 1 (.slice A n c) n (strCells xs)
 bel:Below w.heap.size w wr
theorem SRow.below {w wr w':World}{xs:List ByteArray}{A:Option Addr}{n c:Nat}(h:SRow w wr xs A n c)(hb:Below wr.heap.size wr w'):SRow w w' xs A n c:=
 ⟨h.len,owns_below h.row hb,bthen h.bel hb⟩
theorem SRow.nil (w:World):SRow w w [] none 0 0:=⟨rfl,World.ownsRow_nil _ _ _ _,Below.refl _ _⟩
theorem SRow.grow {w wr w2:World}{xs:List ByteArray}{A A1:Option Addr}{n c c1:Nat}{o:Obj}{x:ByteArray}(h:SRow w wr xs A n c)
  (hr:w2.ownsRow w.heap.size 9 1 (.slice A1 (n+1) c1) (n+1) (strCells xs++[.string x]))
  (hg:(wr.alloc o).grownBy w2 (Value.slice A n c).ownBlock):SRow w w2 (xs++[x]) A1 (n+1) c1:=by
 refine⟨by simp[h.len],by rw[show strCells (xs++[x])=strCells xs++[.string x] by simp[strCells]];exact hr,?_⟩
 exact(h.bel.alloc h.bel.size o).grown hg (by have:=h.bel.size;simp;omega) (fun j hj=>by have:=(h.row.lt j hj).1;omega)
theorem reads_str (w:World)(t:TypeId)(a:Value):Reads (w.alloc (.cells #[a] t)) (w.heap.size+1) 1 (some ⟨w.heap.size,0,none⟩) 1 [a]:=by
 refine⟨rfl,fun _=>⟨_,rfl,by simp,fun j u hu=>?_⟩⟩
 match j,hu with
 | 0,hu=>simp at hu;subst hu;simp[Addr.add]
 | j+1,hu=>simp at hu
theorem owns_cap {w:World}{base:Nat}{e:TypeId}{size n c:Nat}{A:Option Addr}{xs:List Value}(h:w.ownsRow base e size (.slice A n c) n xs):n≤c:=by
 rcases h.2 with⟨h0,h1⟩ | ⟨g,cap,cur,hv,_,_,h2,_⟩
 ·omega
 ·injection hv with _ _ h3;omega
theorem join_le (sep:List UInt8)(b:Nat):∀ (l:List (List UInt8)),(∀ x∈l,x.length≤b)→(Lib.join l sep).length≤l.length*(b+sep.length)
 | [],_=>by simp[Lib.join,List.intercalate]
 | [a],h=>by have:=h a (by simp);simp[Lib.join,List.intercalate];omega
 | a::c::r,h=>by
  have h1:=h a (by simp)
  have ih:=join_le sep b (c::r) (fun x hx=>h x (by simp at hx ⊢;exact .inr hx))
  have e:Lib.join (a::c::r) sep=a++sep++Lib.join (c::r) sep:=by simp[Lib.join,List.intercalate,List.intersperse]
  rw[e,List.length_append,List.length_append,List.length_cons,Nat.succ_mul]
  omega
theorem Wnt.text_eq (x:Wnt)(hx:x.right):bl (if x.no then (⟨#[33]⟩:ByteArray)++(mkB x.name++aSign x.op++mkB x.ver) else mkB x.name++aSign x.op++mkB x.ver)=x.text:=by
 have h7:x.op<7:=by have:=hx.2.1;omega
 unfold Wnt.text
 cases x.no with
 | true=>simp[bl_append,bl_of,sgA_at x.op h7];rfl
 | false=>simp[bl_append,bl_of,sgA_at x.op h7]
theorem sgA_len (k:Nat):(sgA k).length≤2:=by unfold sgA;split<;>simp
theorem Wnt.text_len (x:Wnt)(hx:x.right):x.text.length≤131:=by
 obtain⟨z1,z2⟩:=hx.sizes
 have:=sgA_len x.op
 unfold Wnt.text;cases x.no<;>simp<;>omega
theorem adep_Print (A:Option Addr)(c:Nat)(L:List Wnt)(hL:∀ x∈L,x.right)(h64:L.length≤64)(w:World)(hG:Gl w)(hr:Rd w 4 A L.length (L.flatMap Wnt.cells)):
  Calls Tryz.prog 91 #[.slice A L.length c] w fun e w'=>e=.returned (.tuple #[.string (mkB (aText L)),.int .i64 0])∧Below w.heap.size w w':=by
 obtain⟨i0,hi0,hz0,hz1,hz2⟩:=info_parts info_str
 have HG:=hid hG;have HR:=hid hr;have HL:=hid hL
 clear hG hr hL
 go_enter Tryz.func91,Tryz.ntmps91
 go_wp2_with fail
 refine(adep_Check A c L HL.out h64 w HG.out HR.out).mono ?_;rintro e w0 ⟨rfl,hb0⟩
 have HB0:=hid hb0;clear hb0
 go_wp2_with fail
 go_loopw [5,16] (fun l i wr=>∃ (k:Nat) (xs:List ByteArray) (B:Option Addr) (cc:Nat),k≤L.length∧l=.slice B k cc∧i=.int .i64 k∧Hid (SRow w0 wr xs B k cc)∧Hid (xs.map bl=(L.take k).map Wnt.text)) (fun _ i _=>L.length-(intOf i).toNat)
 case atStart=>exact⟨0,[],none,0,Nat.zero_le _,rfl,rfl,SRow.nil w0,rfl⟩
 case round=>
  obtain⟨k,xs,B,cc,hk,rfl,rfl,HS,HT⟩:=hrel
  by_cases hlt:k<L.length
  ·obtain⟨x,hx⟩:∃ x,L[k]?=some x:=⟨_,List.getElem?_eq_getElem hlt⟩
   obtain⟨b,off,hA,he⟩:=(HR.out.below (bthen HB0.out HS.out.bel)).elem wnt_len k x hx
   have e0:=he 0 _ rfl
   have e1:=he 1 _ rfl
   have e2:=he 2 _ rfl
   have e3:=he 3 _ rfl
   simp only[Nat.add_zero] at e0
   have hix:=fun W=>idx_of (T:=125) (E:=172) (sz:=4) (c:=c) Tryz.underlying125 rfl Tryz.sizeOf172 hA hlt W
   have HX:=hid (HL.out x (List.mem_of_getElem? hx))
   have h7:x.op<7:=by have:=HX.out.2.1;omega
   have TK:Hid ((L.take (k+1)).map Wnt.text=(L.take k).map Wnt.text++[x.text]):=by
    show _=_;obtain⟨hk',hf'⟩:=List.getElem?_eq_some_iff.1 hx;rw[List.take_succ_eq_append_getElem hk',hf'];simp
   clear hx he hA
   have K0:Hid (Blk (wr.alloc (.cells #[.bool x.no,.string (mkB x.name),.int .i64 x.op,.string (mkB x.ver)] 172)) wr.heap.size x.cells):=Blk.new wr x.cells _
   have hsg:=(HG.out.below (bthen (bthen HB0.out HS.out.bel) ((Below.refl _ _).alloc lr (.cells #[.bool x.no,.string (mkB x.name),.int .i64 x.op,.string (mkB x.ver)] 172)))).asg x.op h7
   have S0:=hid (HS.out.below ((Below.refl _ _).alloc lr (.cells #[.bool x.no,.string (mkB x.name),.int .i64 x.op,.string (mkB x.ver)] 172)))
   have s1:(mkB x.name).size≤64:=by rw[mk_size];exact HX.out.sizes.1
   have s2:(mkB x.ver).size≤64:=by rw[mk_size];exact HX.out.sizes.2
   have s3:(aSign x.op).size≤2:=by rw[←bl_length,sgA_at x.op h7];exact sgA_len _
   go_upto_region 8 with(fail)
   go_cut [8] (fun v wx=>v=.string (mkB x.name++aSign x.op++mkB x.ver)∧Hid (SRow w0 wx xs B k cc)∧Hid (Blk wx wr.heap.size x.cells))
   case first=>
    go_quiet (fail)
    go_wp2_with fail
    go_meet
    exact⟨rfl,S0.out.below ⟨rfl,rfl,rfl,lr,fun _ _=>rfl⟩,K0.out.drewN _⟩
   case rest=>
   obtain⟨rfl,S1,K1⟩:=hcut
   clear e0 e1 e2 e3 hix hsg S0 K0
   have c0:=K1.out.cell 0 _ rfl
   have TX:=hid (x.text_eq HX.out)
   have hYz:(mkB x.name++aSign x.op++mkB x.ver).size≤130:=by
    have h1:=HX.out.sizes;have h2:=sgA_len x.op
    rw[←bl_length,bl_append,bl_append,bl_of,bl_of,sgA_at x.op h7];simp;omega
   generalize mkB x.name++aSign x.op++mkB x.ver=Y at *
   cases hno:x.no with
   | false=>
    rw[hno] at c0 TX
    have HTX:Hid (bl Y=x.text):=TX.out
    clear TX hno
    go_wp2_with (at_builtin;refine wpList_append_any _ rfl _ _ _ rfl w0.heap.size 9 i0 _ 1 16 Tryz.underlying22 hi0 hz0 hz1 hz2 rfl (by omega) (.slice B k cc) k _ rfl (S1.out.row.alloc _) (wc.heap.size+1) (some ⟨wc.heap.size,0,none⟩) 1 1 [.string Y] rfl (reads_str wc _ _) (by simp[Value.oneCell']) (by simp only[maxLen];omega) (by omega) (by simp;have:=S1.out.bel.size;omega) ?_;intro v1 w1 o1 g1 a1)
    obtain⟨A1,c1,rfl⟩:=owns_form o1
    have R1:=hid (S1.out.grow (x:=Y) o1 g1)
    clear o1 g1 a1
    go_wp2_with fail
    go_roundw
    case rel=>exact⟨k+1,xs++[Y],A1,c1,by omega,rfl,by go_num,R1,by show _=_;rw[TK.out,List.map_append,HT.out];simp[HTX.out]⟩
    case measure=>simp[intOf];omega
   | true=>
    rw[hno] at c0 TX
    have HTX:Hid (bl ((⟨#[33]⟩:ByteArray)++Y)=x.text):=TX.out
    clear TX hno
    go_wp2_with (at_builtin;refine wpList_append_any _ rfl _ _ _ rfl w0.heap.size 9 i0 _ 1 16 Tryz.underlying22 hi0 hz0 hz1 hz2 rfl (by omega) (.slice B k cc) k _ rfl (S1.out.row.alloc _) (wc.heap.size+1) (some ⟨wc.heap.size,0,none⟩) 1 1 [.string (⟨#[33]⟩++Y)] rfl (reads_str wc _ _) (by simp[Value.oneCell']) (by simp only[maxLen];omega) (by omega) (by simp;have:=S1.out.bel.size;omega) ?_;intro v1 w1 o1 g1 a1)
    obtain⟨A1,c1,rfl⟩:=owns_form o1
    have R1:=hid (S1.out.grow (x:=⟨#[33]⟩++Y) o1 g1)
    clear o1 g1 a1
    go_wp2_with fail
    go_roundw
    case rel=>exact⟨k+1,xs++[⟨#[33]⟩++Y],A1,c1,by omega,rfl,by go_num,R1,by show _=_;rw[TK.out,List.map_append,HT.out];simp[HTX.out]⟩
    case measure=>simp[intOf];omega
  ·have hkL:k=L.length:=by omega
   have EX:Hid (xs.map bl=L.map Wnt.text):=by show _=_;rw[HT.out,hkL,List.take_length]
   have hln:=HS.out.len
   have hcap:=owns_cap HS.out.row
   have JL:Hid ((Lib.join (xs.map bl) (bl ⟨#[32]⟩)).length≤140737488355328):=by
    have h1:=join_le (bl ⟨#[32]⟩) 131 (xs.map bl) (fun y hy=>by rw[EX.out] at hy;obtain⟨z,hz,rfl⟩:=List.mem_map.1 hy;exact z.text_len (HL.out z hz))
    have h2:(bl ⟨#[32]⟩:List UInt8).length=1:=rfl
    rw[h2,List.length_map,hln] at h1
    show _≤_;omega
   have HJ:=hid (fun (_:Unit)=>Join_any B cc xs ⟨#[32]⟩ wr (by rw[hln];exact owns_rd HS.out.row) (by omega) (by omega) JL.out)
   rw[hln] at HJ
   clear hcap JL hln hkL
   go_wp2_with fail
   refine(HJ.out ()).mono ?_;rintro e w2 ⟨rfl,hb2⟩
   have ET:Hid (mkB (Lib.join (xs.map bl) (bl ⟨#[32]⟩))=mkB (aText L)):=by show _=_;rw[EX.out];rfl
   have B2:Hid (Below w.heap.size w w2):=bthen (bthen HB0.out HS.out.bel) hb2
   clear hb2
   go_wp2_with fail
   go_ret2
   exact⟨by rw[←ET.out];rfl,B2.out⟩
end
section
open Go.RowKit
structure Trm.good (t:Trm):Prop where
 right:t.right=true
 op:t.op≤5
 ver:t.op=0→t.ver=[]
 few:t.archs.length≤1000000
structure Trm.shape (t:Trm) (n:Nat):Prop where
 op:t.op≤5
 ver:t.op=0→t.ver=[]
 few:t.archs.length≤n
theorem dOp_le (l:List UInt8):(dOp l).1≤5:=by
 unfold dOp;repeat' split
 all_goals simp
theorem dRelV_op {n op:Nat}{l v r:List UInt8}(h:dRelV n l=some (op,v,r)):op=n∧n≠0∧r.length≤l.length:=by
 unfold dRelV at h
 split at h
 ·cases h
 ·rename_i h0
  split at h
  ·cases h
  ·rename_i a b ht
   unfold dRelE at h
   split at h
   ·injection h with h;injection h with h1 h;injection h with h2 h3
    refine⟨h1.symm,h0,?_⟩
    rw[←h3]
    have a1:=tok_lt ht
    have a2:=skipL_le l
    have a3:=skipL_le b
    have a4:=skipL_le ((skipL b).drop 1)
    rw[List.length_drop] at a4
    omega
   ·cases h
theorem dOp_len (l:List UInt8):(dOp l).2.length≤l.length:=by
 unfold dOp;repeat' split
 all_goals simp
 all_goals omega
theorem dRelO_shape {op:Nat}{l v r:List UInt8}(h:dRelO l=some (op,v,r)):op≤5∧(op=0→v=[])∧r.length≤l.length:=by
 unfold dRelO at h
 split at h
 ·unfold dRel at h
  obtain⟨h1,h2,h3⟩:=dRelV_op h
  refine⟨by rw[h1];exact dOp_le _,fun h0=>absurd (h1.symm.trans h0) h2,?_⟩
  have a1:=dOp_len (skipL (l.drop 1))
  have a2:=skipL_le (l.drop 1)
  rw[List.length_drop] at a2
  omega
 ·injection h with h;injection h with h1 h;injection h with h2 h3
  exact⟨by omega,fun _=>h2.symm,by rw[h3];exact Nat.le_refl _⟩
theorem aBare_len (l:List UInt8):(aBare l).length≤l.length:=by unfold aBare;split<;>simp
theorem dArchs_len:∀ (f:Nat)(l r:List UInt8)(L:List (List UInt8)),dArchs f l=some (L,r)→L.length≤l.length∧r.length≤l.length
 | 0,l,r,L,h=>by simp[dArchs] at h
 | f+1,l,r,L,h=>by
  unfold dArchs at h
  split at h
  ·cases h
  ·rename_i a b ha
   obtain⟨x,h1,_,_⟩:=dArch1_some ha
   have a1:=tok_lt h1
   have a2:=aBare_len l
   have a3:=skipL_le b
   split at h
   ·injection h with h;injection h with h2 h3
    have a4:=skipL_le ((skipL b).drop 1)
    rw[List.length_drop] at a4
    subst h2;subst h3
    constructor
    ·simp;omega
    ·omega
   ·split at h
    ·obtain⟨⟨M,q⟩,h4,h5⟩:=Option.map_eq_some_iff.1 h
     injection h5 with h5 h6
     obtain⟨b1,b2⟩:=dArchs_len f (skipL b) q M h4
     subst h5;subst h6
     constructor
     ·simp;omega
     ·show q.length≤_;omega
    ·cases h
theorem dTerm_shape {t:Trm}{l r:List UInt8}(h:dTerm l=some (t,r)):t.shape l.length∧r.length<l.length:=by
 unfold dTerm at h
 split at h
 ·cases h
 ·rename_i nm r0 h0
  have a0:=tok_lt h0
  split at h
  ·cases h
  ·rename_i q r1 h1
   have a1:r1.length≤r0.length:=by
    unfold dQual at h1
    split at h1
    ·have:=tok_lt h1;rw[List.length_drop] at this;omega
    ·injection h1 with h1;injection h1 with _ h1;rw[h1];exact Nat.le_refl _
   have a2:=skipL_le r1
   split at h
   ·cases h
   ·rename_i op v r2 h2
    obtain⟨b1,b2,b3⟩:=dRelO_shape h2
    split at h
    ·cases h
    ·rename_i ar r3 h3
     have a4:ar.length≤r2.length∧r3.length≤r2.length:=by
      unfold dArchO at h3
      split at h3
      ·obtain⟨c1,c2⟩:=dArchs_len _ _ _ _ h3
       have:=skipL_le (r2.drop 1);rw[List.length_drop] at this;constructor<;>omega
      ·injection h3 with h3;injection h3 with h3 h4;subst h3;subst h4;simp
     injection h with h;injection h with h5 h6
     subst h5;subst h6
     exact⟨⟨b1,b2,by show ar.length≤_;omega⟩,by omega⟩
theorem shape_mono {t:Trm}{n m:Nat}(h:t.shape n)(hn:n≤m):t.shape m:=⟨h.op,h.ver,Nat.le_trans h.few hn⟩
theorem dGroup_shape:∀ (f:Nat)(l r:List UInt8)(g:List Trm),dGroup f l=some (g,r)→g≠[]∧(∀ t∈g,t.shape l.length)∧r.length≤l.length
 | 0,l,r,g,h=>by simp[dGroup] at h
 | f+1,l,r,g,h=>by
  unfold dGroup at h
  split at h
  ·cases h
  ·rename_i t r0 h0
   obtain⟨a1,a2⟩:=dTerm_shape h0
   split at h
   ·obtain⟨⟨M,q⟩,h4,h5⟩:=Option.map_eq_some_iff.1 h
    injection h5 with h5 h6
    obtain⟨b1,b2,b3⟩:=dGroup_shape f _ q M h4
    have a3:=skipL_le (r0.drop 1)
    rw[List.length_drop] at a3
    subst h5;subst h6
    refine⟨by simp,fun x hx=>?_,by show q.length≤_;omega⟩
    rcases List.mem_cons.1 hx with rfl | hx
    ·exact a1
    ·exact shape_mono (b2 x hx) (by omega)
   ·injection h with h;injection h with h5 h6
    subst h5;subst h6
    refine⟨by simp,fun x hx=>?_,by omega⟩
    obtain rfl:=List.mem_singleton.1 hx
    exact a1
theorem dGroups_shape:∀ (f:Nat)(l:List UInt8)(L:List (List Trm)),dGroups f l=some L→∀ g∈L,g≠[]∧∀ t∈g,t.shape l.length
 | 0,l,L,h=>by simp[dGroups] at h
 | f+1,l,L,h=>by
  unfold dGroups at h
  split at h
  ·cases h
  ·rename_i g0 r0 h0
   obtain⟨a1,a2,a3⟩:=dGroup_shape _ _ _ _ h0
   split at h
   ·injection h with h;subst h
    intro g hg;obtain rfl:=List.mem_singleton.1 hg;exact⟨a1,a2⟩
   ·split at h
    ·obtain⟨M,h4,rfl⟩:=Option.map_eq_some_iff.1 h
     have a4:=skipL_le (r0.drop 1)
     rw[List.length_drop] at a4
     intro g hg
     rcases List.mem_cons.1 hg with rfl | hg
     ·exact⟨a1,a2⟩
     ·obtain⟨b1,b2⟩:=dGroups_shape f _ M h4 g hg
      exact⟨b1,fun t ht=>shape_mono (b2 t ht) (by omega)⟩
    ·cases h
theorem dForm_shape {l:List UInt8}{L:List (List Trm)}(h:dForm l=some L):∀ g∈L,g≠[]∧∀ t∈g,t.shape l.length:=by
 unfold dForm at h
 split at h
 ·injection h with h;subst h;simp
 ·intro g hg
  obtain⟨b1,b2⟩:=dGroups_shape _ _ _ h g hg
  exact⟨b1,fun t ht=>shape_mono (b2 t ht) (skipL_le _)⟩
structure FldGood (L:List (List Trm)):Prop where
 ne:∀ g∈L,g≠[]
 good:∀ g∈L,∀ t∈g,t.good
 sum:(L.map List.length).sum≤64
theorem dParse_fld {l:List UInt8}{L:List (List Trm)}(h:dParse l=some L)(hl:l.length≤1000000):FldGood L:=by
 unfold dParse at h
 split at h
 ·cases h
 ·rename_i M hM
  split at h
  ·rename_i ha
   injection h with h;subst h
   have hs:=dForm_shape hM
   unfold dAll at ha
   simp only[Bool.and_eq_true,List.all_eq_true,decide_eq_true_eq] at ha
   refine⟨fun g hg=>(hs g hg).1,fun g hg t ht=>?_,ha.2⟩
   have h1:=(hs g hg).2 t ht
   exact⟨ha.1 g hg t ht,h1.op,h1.ver,Nat.le_trans h1.few hl⟩
  ·cases h
theorem FldGood.nil:FldGood []:=⟨by simp,by simp,by simp⟩
theorem sum_ge {L:List (List Trm)}{g:List Trm}(h:g∈L):g.length≤(L.map List.length).sum:=by
 induction L with
 | nil=>simp at h
 | cons a r ih=>
  rcases List.mem_cons.1 h with rfl | h
  ·simp
  ·have:=ih h;simp;omega
theorem FldGood.few {L:List (List Trm)}(h:FldGood L):L.length≤64:=by
 have h1:=h.sum
 have:∀ (M:List (List Trm)),(∀ g∈M,g≠[])→M.length≤(M.map List.length).sum:=by
  intro M
  induction M with
  | nil=>simp
  | cons a r ih=>
   intro hM
   have h2:=ih (fun g hg=>hM g (List.mem_cons_of_mem _ hg))
   have h3:0<a.length:=List.length_pos_iff.2 (hM a (by simp))
   simp;omega
 have:=this L h.ne
 omega
theorem dname_len {l:List UInt8}(h:dnameB l=true):l.length≤64:=by unfold dnameB at h;simp at h;omega
theorem dword_len {l:List UInt8}(h:dwordB l=true):l.length≤32:=by unfold dwordB at h;simp at h;omega
theorem bare_plus (l:List UInt8):l.length≤(aBare l).length+1:=by unfold aBare;split<;>simp;omega
structure Trm.sizes (t:Trm):Prop where
 nm:t.name.length≤64
 qual:t.qual.length≤32
 ver:t.ver.length≤64
 archs:∀ x∈t.archs,x.length≤33
structure Trm.parts (t:Trm):Prop where
 nm:dnameB t.name=true
 qual:t.qual=[]∨dwordB t.qual=true
 archs:∀ x∈t.archs,dwordB (aBare x)=true
 ver:0<t.op→verE 1 (mkB t.ver)=0
theorem Trm.good.parts {t:Trm}(h:t.good):t.parts:=by
 have h1:=h.right
 unfold Trm.right at h1
 simp only[Bool.and_eq_true,Bool.or_eq_true,List.all_eq_true,decide_eq_true_eq,List.isEmpty_iff] at h1
 obtain⟨⟨⟨a1,a2⟩,a3⟩,a4⟩:=h1
 exact⟨a1,a2,a3,fun h0=>by rcases a4 with a4 | a4;· omega
                           ·exact a4⟩
theorem Trm.good.sizes {t:Trm}(h:t.good):t.sizes:=by
 have p:=h.parts
 refine⟨dname_len p.nm,?_,?_,fun x hx=>?_⟩
 ·rcases p.qual with h0 | h0
  ·rw[h0];simp
  ·exact dword_len h0
 ·by_cases h0:t.op=0
  ·rw[h.ver h0];simp
  ·have:=verE_size (p.ver (by omega));rw[mk_size] at this;exact this
 ·have:=dword_len (p.archs x hx);have:=bare_plus x;omega
end
section
open Go.RowKit
theorem r16_sign (o:Nat)(ho:o<7)(w:World):
  Calls Tryz.prog 218 #[.int .i64 o] w fun e w'=>e=.returned (.string (aSign o))∧Below w.heap.size w w':=by
 rcases(by omega:o=0∨o=1∨o=2∨o=3∨o=4∨o=5∨o=6) with rfl | rfl | rfl | rfl | rfl | rfl | rfl
 all_goals
  go_enter Tryz.func218,Tryz.ntmps218
  go_wp2_with fail
  go_ret
  exact⟨rfl,(Below.refl _ _).alloc lr _⟩
theorem r16_Check (A:Option Addr)(c:Nat)(L:List Wnt)(hL:∀ x∈L,x.right)(h64:L.length≤64)(w:World)(hr:Rd w 4 A L.length (L.flatMap Wnt.cells)):
  Calls Tryz.prog 217 #[.slice A L.length c] w fun e w'=>e=.returned (.int .i64 0)∧Below w.heap.size w w':=by
 have HR:=hid hr;have HL:=hid hL
 clear hr hL
 go_enter Tryz.func217,Tryz.ntmps217
 go_wp2_with fail
 go_loopw [3] (fun i wr=>∃ k:Nat,k≤L.length∧i=.int .i64 k∧Hid (Below w.heap.size w wr)) (fun i _=>L.length-(intOf i).toNat)
 case atStart=>exact⟨0,Nat.zero_le _,rfl,Below.refl _ _⟩
 case round=>
  obtain⟨k,hk,rfl,HB⟩:=hrel
  by_cases hlt:k<L.length
  ·obtain⟨x,hx⟩:∃ x,L[k]?=some x:=⟨_,List.getElem?_eq_getElem hlt⟩
   obtain⟨b,off,hA,he⟩:=(HR.out.below HB.out).elem wnt_len k x hx
   have e1:=he 1 _ rfl
   have e2:=he 2 _ rfl
   have e3:=he 3 _ rfl
   have hix:=fun W=>idx_of (T:=125) (E:=172) (sz:=4) (c:=c) Tryz.underlying125 rfl Tryz.sizeOf172 hA hlt W
   have hX:=HL.out x (List.mem_of_getElem? hx)
   obtain⟨z1,z2⟩:=hX.sizes
   obtain⟨h1,h2,h3,h4⟩:=hX
   have s1:(mkB x.name).size≤64:=by rw[mk_size];exact z1
   have s2:(mkB x.ver).size≤64:=by rw[mk_size];exact z2
   have hN:=fun W=>r16_Name (mkB x.name) W (by omega)
   rw[bl_of,h1] at hN
   clear hx he hA h1 z1 z2
   by_cases o0:x.op=0
   ·have hv:mkB x.ver=⟨#[]⟩:=by rw[h3 o0];rfl
    rw[hv] at e3
    rw[o0] at e2
    clear h2 h3 h4 s2 hv o0
    generalize mkB x.name=N at *
    go_wp2_with fail
    refine(hN _).mono ?_;rintro e w' ⟨rfl,rfl⟩
    go_wp2_with fail
    go_roundw
    case rel=>exact⟨k+1,by omega,by go_num,HB.out.alloc HB.out.size _⟩
    case measure=>simp[intOf];omega
   ·have hv:=h4 (by omega)
    have o1:decide ((x.op:Int)<0)=false:=decide_eq_false (by omega)
    have o2:decide ((6:Int)<(x.op:Int))=false:=decide_eq_false (by omega)
    have o3:((x.op:Int)==0)=false:=by simp;omega
    have o4:decide ((0:Int)<(x.op:Int))=true:=decide_eq_true (by omega)
    have o5:decide (0<x.op)=true:=decide_eq_true (by omega)
    have hC:=fun W=>r12_Check 3 (mkB x.ver) W (by omega)
    rw[hv] at hC
    clear h2 h3 h4 hv
    generalize mkB x.name=N at *
    generalize mkB x.ver=V at *
    generalize x.op=o at *
    go_wp2_with fail
    refine(hN _).mono ?_;rintro e w' ⟨rfl,rfl⟩
    go_wp2_with fail
    refine(hC _).mono ?_;rintro e w1 ⟨rfl,hb1⟩
    have B2:Hid (Below w.heap.size w w1):=bthen (HB.out.alloc HB.out.size _) hb1
    clear hb1
    go_wp2_with fail
    go_roundw
    case rel=>exact⟨k+1,by omega,by go_num,B2⟩
    case measure=>simp[intOf];omega
  ·go_wp2_with fail
   go_ret
   exact⟨rfl,HB.out⟩
end
end Go.Proofs.YtdfdllbebfoggaaGreatDoor
