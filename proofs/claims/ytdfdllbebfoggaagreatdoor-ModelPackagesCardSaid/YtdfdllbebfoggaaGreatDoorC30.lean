/- A part of the proof that ModelPackages holds. No condition. -/
import Derived.Test.YtdfdllbebfoggaaGreatDoorC23
import Derived.Test.YtdfdllbebfoggaaGreatDoorC29
set_option maxRecDepth 100000
set_option maxHeartbeats 20000000
set_option linter.unusedVariables false
set_option linter.unusedSimpArgs false
namespace Go.Proofs.YtdfdllbebfoggaaGreatDoor
section
open Go.RowKit
theorem CutP (s p:ByteArray)(w:World):Calls Tryz.prog 119 #[.string s,.string p] w fun e w'=>e=.returned (.tuple #[.string (mkB (Lib.trimPrefix (bl s) (bl p))),.bool (Lib.hasPrefix (bl s) (bl p))])∧w=w':=
 (Tryz.strings_CutPrefix s p w).mono fun _ _ ⟨he,hw⟩=>⟨he,hw.symm⟩
theorem idx7 (k:Nat)(hk:k<7)(x:Nat→ByteArray)(w:World):(Instr.index 179 (.agg #[.string (x 0),.string (x 1),.string (x 2),.string (x 3),.string (x 4),.string (x 5),.string (x 6)]) (.int .i64 k)).run Tryz.prog w=.ok (.string (x k)) w:=by
 rcases(by omega:k=0∨k=1∨k=2∨k=3∨k=4∨k=5∨k=6) with rfl | rfl | rfl | rfl | rfl | rfl | rfl<;>kernel_rfl
theorem sgA_at (k:Nat)(hk:k<7):bl (aSign k)=sgA k:=by
 rcases(by omega:k=0∨k=1∨k=2∨k=3∨k=4∨k=5∨k=6) with rfl | rfl | rfl | rfl | rfl | rfl | rfl<;>rfl
theorem relUp_yes {l:List UInt8}{k:Nat}(h1:Lib.hasPrefix l (sgA k)=true)(h2:(mkB (Lib.trimPrefix l (sgA k))).size<(mkB (relUp l k).2).size):relUp l (k+1)=(k,Lib.trimPrefix l (sgA k)):=by
 rw[mk_size,mk_size] at h2
 simp[relUp,h1,h2]
theorem relUp_long {l:List UInt8}{k:Nat}(h2:¬ (mkB (Lib.trimPrefix l (sgA k))).size<(mkB (relUp l k).2).size):relUp l (k+1)=relUp l k:=by
 rw[mk_size,mk_size] at h2
 simp[relUp,h2]
theorem relUp_no {l:List UInt8}{k:Nat}(h1:Lib.hasPrefix l (sgA k)=false):relUp l (k+1)=relUp l k:=by
 simp[relUp,h1]
theorem trim_le (l p:List UInt8):(Lib.trimPrefix l p).length≤l.length:=by
 unfold Lib.trimPrefix;split<;>simp
theorem relUp_le (l:List UInt8):∀ k,(relUp l k).2.length≤l.length
 | 0=>Nat.le_refl _
 | k+1=>by
  unfold relUp;split
  ·exact trim_le _ _
  ·exact relUp_le l k
theorem adep_relation (s:ByteArray)(w:World)(hG:Gl w)(hs:s.size≤9223372036854775807):
  Calls Tryz.prog 188 #[.string s] w fun e w'=>e=.returned (.tuple #[.int .i64 (aOp (bl s)).1,.string (mkB (aOp (bl s)).2)])∧w=w':=by
 have g0:=hG.asg 0 (by omega)
 have g1:=hG.asg 1 (by omega)
 have g2:=hG.asg 2 (by omega)
 have g3:=hG.asg 3 (by omega)
 have g4:=hG.asg 4 (by omega)
 have g5:=hG.asg 5 (by omega)
 have g6:=hG.asg 6 (by omega)
 clear hG
 go_enter Tryz.func188,Tryz.ntmps188
 go_wp2_with fail
 clear g0 g1 g2 g3 g4 g5 g6
 go_loop [4,5,12] (fun o b i=>∃ k:Nat,k≤7∧∃ (n:Nat) (B:ByteArray),o=.int .i64 n∧b=.string B∧i=.int .i64 k∧Hid (relUp (bl s) k=(n,bl B))) (fun _ _ i=>7-(intOf i).toNat)
 case atStart=>exact⟨0,by omega,0,s,rfl,rfl,rfl,rfl⟩
 case round=>
  obtain⟨k,hk,n,B,rfl,rfl,rfl,HR⟩:=hrel
  by_cases hlt:k<7
  ·have hix:=fun W=>idx7 k hlt aSign W
   have hsg:=sgA_at k hlt
   obtain⟨T,hT⟩:∃ T,mkB (Lib.trimPrefix (bl s) (sgA k))=T:=⟨_,rfl⟩
   have hTz:T.size≤s.size:=by rw[←hT,mk_size,←bl_length];exact trim_le _ _
   have hBz:B.size≤s.size:=by rw[←bl_length,←bl_length,show bl B=(relUp (bl s) k).2 by rw[HR.out]];exact relUp_le _ _
   have hbT:bl T=Lib.trimPrefix (bl s) (sgA k):=by rw[←hT,bl_of]
   have hmB:mkB (relUp (bl s) k).2=B:=by rw[HR.out];exact mk_bl B
   cases hp:Lib.hasPrefix (bl s) (sgA k) with
   | false=>
    have HN:=hid ((relUp_no hp).trans HR.out)
    clear hmB hbT
    go_wp2_with (go_at_call 119;refine(CutP _ _ _).mono ?_;rintro e w' ⟨rfl,rfl⟩;rw[hsg,hp,hT])
    go_round
    case rel=>exact⟨k+1,by omega,n,B,rfl,rfl,by go_num,HN⟩
    case measure=>simp[intOf];omega
   | true=>
    by_cases hl:T.size<B.size
    ·have HN:Hid (relUp (bl s) (k+1)=(k,bl T)):=by show _=_;rw[relUp_yes hp (by rw[hT,hmB];exact hl),hbT]
     clear hmB hbT
     go_wp2_with (go_at_call 119;refine(CutP _ _ _).mono ?_;rintro e w' ⟨rfl,rfl⟩;rw[hsg,hp,hT])
     go_round
     case rel=>exact⟨k+1,by omega,k,T,rfl,rfl,by go_num,HN⟩
     case measure=>simp[intOf];omega
    ·have HN:=hid ((relUp_long (by rw[hT,hmB];exact hl)).trans HR.out)
     clear hmB hbT
     go_wp2_with (go_at_call 119;refine(CutP _ _ _).mono ?_;rintro e w' ⟨rfl,rfl⟩;rw[hsg,hp,hT])
     go_round
     case rel=>exact⟨k+1,by omega,n,B,rfl,rfl,by go_num,HN⟩
     case measure=>simp[intOf];omega
  ·have E:Hid (aOp (bl s)=(n,bl B)):=by show _=_;rw[←relUp_all,←HR.out];congr 1;omega
   go_wp2_with fail
   go_ret2
   exact⟨by rw[E.out,mk_bl];rfl,rfl⟩
end
section
open Go.RowKit Go.Deep
theorem info_want:(Tryz.prog.info? 172).map (fun i=>(i.zero,i.size,i.bytes))=some (some (.agg #[.bool false,.string ⟨#[]⟩,.int .i64 0,.string ⟨#[]⟩]),4,48):=by kernel_rfl
structure WRow (w wr:World) (L:List Wnt) (A:Option Addr) (n c:Nat):Prop where
 len:L.length=n
 row:wr.ownsRow (w.heap.size+1) 172 4 (.slice A n c) n (L.flatMap Wnt.cells)
 ret:Blk wr w.heap.size [.string ⟨#[]⟩,.int .i64 0,.int .i64 0]
 bel:Below w.heap.size w wr
theorem WRow.below {w wr w':World}{L:List Wnt}{A:Option Addr}{n c:Nat}(h:WRow w wr L A n c)(hb:Below wr.heap.size wr w'):WRow w w' L A n c:=
 ⟨h.len,owns_below h.row hb,h.ret.below hb,bthen h.bel hb⟩
theorem WRow.start (w:World):WRow w (w.alloc (.cells #[.string ⟨#[]⟩,.int .i64 0,.int .i64 0] 114)) [] none 0 0:=
 ⟨rfl,World.ownsRow_nil _ _ _ _,Blk.new w _ _,(Below.refl _ _).alloc lr _⟩
theorem WRow.grow {w wr w2:World}{L:List Wnt}{A A1:Option Addr}{n c c1:Nat}{o1 o2:Obj}{x:Wnt}(h:WRow w wr L A n c)
  (hr:w2.ownsRow (w.heap.size+1) 172 4 (.slice A1 (n+1) c1) (n+1) (L.flatMap Wnt.cells++x.cells))
  (hg:((wr.alloc o1).alloc o2).grownBy w2 (Value.slice A n c).ownBlock):WRow w w2 (L++[x]) A1 (n+1) c1:=by
 have hb:=h.bel.size
 have hB:Below w.heap.size w ((wr.alloc o1).alloc o2):=(h.bel.alloc h.bel.size o1).alloc (by simp;omega) o2
 have hR:Blk ((wr.alloc o1).alloc o2) w.heap.size [.string ⟨#[]⟩,.int .i64 0,.int .i64 0]:=(h.ret.alloc o1).alloc o2
 refine⟨by simp[h.len],by rw[List.flatMap_append];simpa using hr,?_,?_⟩
 ·have hk:w2.heap[w.heap.size]?=((wr.alloc o1).alloc o2).heap[w.heap.size]?:=hg.block _ hR.sz (by intro e;have:=(h.row.lt _ e.symm).1;omega)
  refine⟨Nat.lt_of_lt_of_le hR.sz hg.size,fun j u hu=>?_,fun j hj=>?_⟩
  ·exact(World.cell?_of_block (a:=⟨w.heap.size,j,none⟩) hk).trans (hR.cell j u hu)
  ·exact(World.frozen?_of_block (a:=⟨w.heap.size,j,none⟩) hk).trans (hR.free j hj)
 ·exact hB.grown hg hB.size (fun j hj=>by have:=(h.row.lt j hj).1;omega)
def AParsePost (r:Option (List Wnt))(w:World)(e:Ending)(w':World):Prop:=
 ∃ (A:Option Addr) (n c:Nat) (f:ByteArray) (a code:Int),e=.returned (.tuple #[.slice A n c,fltV f a code])∧Below w.heap.size w w' ∧
  (match r with
   | some L=>code=0∧n=L.length∧w'.ownsRow w.heap.size 172 4 (.slice A n c) n (L.flatMap Wnt.cells)
   | none=>code≠0∧A=none∧n=0)
theorem reads_want (w:World)(t:TypeId)(a b c d:Value):Reads (w.alloc (.cells #[a,b,c,d] t)) (w.heap.size+1) 4 (some ⟨w.heap.size,0,none⟩) 1 [a,b,c,d]:=by
 refine⟨rfl,fun _=>⟨_,rfl,by simp,fun j u hu=>?_⟩⟩
 match j,hu with
 | 0,hu=>simp at hu;subst hu;simp[Addr.add]
 | 1,hu=>simp at hu;subst hu;simp[Addr.add]
 | 2,hu=>simp at hu;subst hu;simp[Addr.add]
 | 3,hu=>simp at hu;subst hu;simp[Addr.add]
 | j+4,hu=>simp at hu
theorem cut_ink (l:List UInt8):(Lib.cut l [32]).1=l.take (runN inkB l):=by
 by_cases h:runN inkB l<l.length
 ·obtain⟨a,r,hd,ha⟩:=runN_head l h
  have ha:a=32:=by simpa [inkB] using ha
  subst ha
  have h1:l[runN inkB l]?=some 32:=by
   have:=congrArg (fun x=>x[0]?) hd
   simpa [List.getElem?_drop] using this
  have h0:(l.take (runN inkB l)).contains 32=false:=by
   cases hc:(l.take (runN inkB l)).contains 32 with
   | false=>rfl
   | true=>
    have hm:(32:UInt8)∈l.take (runN inkB l):=by simpa using hc
    have:l.take (runN inkB l)=l.takeWhile inkB:=by unfold runN;exact(List.prefix_iff_eq_take.1 (List.takeWhile_prefix _)).symm
    rw[this] at hm
    have:=List.all_eq_true.1 (List.all_takeWhile (p:=inkB) (l:=l)) 32 hm
    simp[inkB] at this
  rw[cut_of l _ h0 h1]
 ·have hl:=runN_le inkB l
  have he:runN inkB l=l.length:=by omega
  have hc:l.contains 32=false:=by
   cases hc:l.contains 32 with
   | false=>rfl
   | true=>
    have hm:(32:UInt8)∈l:=by simpa using hc
    have:l.takeWhile inkB=l:=by
     have:=List.prefix_iff_eq_take.1 (List.takeWhile_prefix (p:=inkB) (l:=l))
     rw[this];exact List.take_of_length_le (by unfold runN at he;omega)
    rw[←this] at hm
    have:=List.all_eq_true.1 (List.all_takeWhile (p:=inkB) (l:=l)) 32 hm
    simp[inkB] at this
  rw[cut_none l hc,he,List.take_length]
end
section
open Go.RowKit
theorem verE_size {fmt:Int}{s:ByteArray}(h:verE fmt s=0):s.size≤64:=by
 unfold verE at h
 split at h
 ·simp at h
 ·split at h
  ·simp at h
  ·omega
theorem aname_len {l:List UInt8}(h:anameB l=true):l.length≤64:=by
 rw[anameB_eq] at h;simp at h;omega
theorem Wnt.right.sizes {x:Wnt}(h:x.right):x.name.length≤64∧x.ver.length≤64:=by
 obtain⟨h1,h2,h3,h4⟩:=h
 refine⟨aname_len h1,?_⟩
 by_cases o0:x.op=0
 ·rw[h3 o0];simp
 ·have:=verE_size (h4 (by omega));rw[mk_size] at this;exact this
theorem adep_check (x:Wnt)(hx:x.right)(w:World)(hG:Gl w):
  Calls Tryz.prog 190 #[.agg #[.string (mkB x.name),.int .i64 x.op,.string (mkB x.ver)]] w fun e w'=>e=.returned (.int .i64 0)∧Below w.heap.size w w':=by
 obtain⟨z1,z2⟩:=hx.sizes
 obtain⟨h1,h2,h3,h4⟩:=hx
 have HG:=hid hG;clear hG
 have hn:anameB (bl (mkB x.name))=true:=by rw[bl_of];exact h1
 have s1:(mkB x.name).size≤64:=by rw[mk_size];exact z1
 have s2:(mkB x.ver).size≤64:=by rw[mk_size];exact z2
 have hN:=fun W=>adep_Name (mkB x.name) W (by omega)
 rw[hn] at hN
 clear hn h1 z1 z2
 generalize mkB x.name=N at *
 by_cases o0:x.op=0
 ·have hv:mkB x.ver=⟨#[]⟩:=by rw[h3 o0];rfl
  rw[hv,o0]
  clear h2 h3 h4 s2 hv o0
  go_enter Tryz.func190,Tryz.ntmps190
  go_wp2_with fail
  refine(hN _).mono ?_;rintro e w' ⟨rfl,rfl⟩
  go_wp2_with fail
  go_ret
  exact⟨rfl,(Below.refl _ _).alloc lr _⟩
 ·have hv:=h4 (by omega)
  have o1:decide ((x.op:Int)<0)=false:=decide_eq_false (by omega)
  have o2:decide ((6:Int)<(x.op:Int))=false:=decide_eq_false (by omega)
  have o3:((x.op:Int)==0)=false:=by simp;omega
  have hC:=fun W hW=>version_Check_any 3 (mkB x.ver) W hW (by omega)
  rw[hv] at hC
  clear h2 h3 h4 hv
  generalize mkB x.ver=V at *
  go_enter Tryz.func190,Tryz.ntmps190
  go_wp2_with fail
  refine(hN _).mono ?_;rintro e w' ⟨rfl,rfl⟩
  go_wp2_with fail
  refine(hC _ (HG.out.alloc _)).mono ?_;rintro e w1 ⟨rfl,hb1⟩
  go_wp2_with fail
  go_ret
  exact⟨rfl,((Below.refl _ _).alloc lr _).trans (hb1.mono (by simp))⟩
theorem adep_Check (A:Option Addr)(c:Nat)(L:List Wnt)(hL:∀ x∈L,x.right)(h64:L.length≤64)(w:World)(hG:Gl w)(hr:Rd w 4 A L.length (L.flatMap Wnt.cells)):
  Calls Tryz.prog 134 #[.slice A L.length c] w fun e w'=>e=.returned (.int .i64 0)∧Below w.heap.size w w':=by
 have HG:=hid hG;have HR:=hid hr;have HL:=hid hL
 clear hG hr hL
 go_enter Tryz.func134,Tryz.ntmps134
 go_wp2_with fail
 go_loopw [11] (fun i wr=>∃ k:Nat,k≤L.length∧i=.int .i64 k∧Hid (Below w.heap.size w wr)) (fun i _=>L.length-(intOf i).toNat)
 case atStart=>exact⟨0,Nat.zero_le _,rfl,Below.refl _ _⟩
 case round=>
  obtain⟨k,hk,rfl,HB⟩:=hrel
  by_cases hlt:k<L.length
  ·obtain⟨x,hx⟩:∃ x,L[k]?=some x:=⟨_,List.getElem?_eq_getElem hlt⟩
   obtain⟨b,off,hA,he⟩:=(HR.out.below HB.out).elem wnt_len k x hx
   have e0:=he 0 _ rfl
   have e1:=he 1 _ rfl
   have e2:=he 2 _ rfl
   have e3:=he 3 _ rfl
   simp only[Nat.add_zero] at e0
   have hix:=fun W=>idx_of (T:=125) (E:=172) (sz:=4) (c:=c) Tryz.underlying125 rfl Tryz.sizeOf172 hA hlt W
   have HX:=hid (HL.out x (List.mem_of_getElem? hx))
   clear hx he hA
   go_wp2_with fail
   have B1:=hid (HB.out.alloc HB.out.size (.cells #[.bool x.no,.string (mkB x.name),.int .i64 x.op,.string (mkB x.ver)] 172))
   refine(adep_check x HX.out _ (HG.out.below B1.out)).mono ?_;rintro e w1 ⟨rfl,hb1⟩
   have B2:Hid (Below w.heap.size w w1):=bthen B1.out hb1
   clear hb1 e0 e1 e2 e3 hix
   go_wp2_with fail
   go_roundw
   case rel=>exact⟨k+1,by omega,by go_num,B2⟩
   case measure=>simp[intOf];omega
  ·go_wp2_with fail
   go_ret
   exact⟨rfl,HB.out⟩
theorem Join_any (A:Option Addr)(c:Nat)(xs:List ByteArray)(sep:ByteArray)(w:World)(hr:Rd w 1 A xs.length (strCells xs))(hc:xs.length≤c)(hn:xs.length≤140737488355328)(hlen:(Lib.join (xs.map bl) (bl sep)).length≤140737488355328):
  Calls Tryz.prog 126 #[.slice A xs.length c,.string sep] w fun e w'=>e=.returned (.string (mkB (Lib.join (xs.map bl) (bl sep))))∧Below w.heap.size w w':=by
 by_cases h0:xs.length=0
 ·have:xs=[]:=List.length_eq_zero_iff.1 h0
  subst this
  exact(Tryz.strings_Join_none A c sep w).mono fun _ _ ⟨he,hw⟩=>⟨he,by rw[hw];exact Below.refl _ _⟩
 ·obtain⟨b,off,rfl,hcell⟩:=hr.2 (by omega)
  have hb:b<w.heap.size:=by
   have h1:=hcell 0 (.string xs[0]) (by simp[strCells])
   exact World.block_lt_of_cell? _ _ h1
  exact(Tryz.strings_Join b off c xs sep w (fun j x hx=>hcell j _ (by simp[strCells,hx])) hb hn hc hlen).mono fun _ _ ⟨he,hw⟩=>⟨he,hw⟩
end
end Go.Proofs.YtdfdllbebfoggaaGreatDoor
