/- A part of the proof that ModelChecks holds. No condition. -/
import Derived.Test.YtdfdllbebfoggaaGreatDoorD23
import Derived.Test.YtdfdllbebfoggaaGreatDoorD25
set_option maxRecDepth 100000
set_option maxHeartbeats 20000000
set_option linter.unusedVariables false
set_option linter.unusedSimpArgs false
namespace Go.Proofs.YtdfdllbebfoggaaGreatDoor
section
open Go.RowKit Go.Deep
structure SRow (w wr:World) (xs:List BA) (A:Option Addr) (n c:Nat):Prop where
 len:xs.length=n
 row:wr.ownsRow w.heap.size 9 1 (.slice A n c) n (strCells xs)
 bel:Below w.heap.size w wr
theorem SRow.below {w wr w':World}{xs:List BA}{A:Option Addr}{n c:Nat}(h:SRow w wr xs A n c)(hb:Below wr.heap.size wr w'):SRow w w' xs A n c:=
 ⟨h.len,owns_below h.row hb,bthen h.bel hb⟩
theorem SRow.nil (w:World):SRow w w [] none 0 0:=⟨rfl,World.ownsRow_nil _ _ _ _,bR⟩
theorem SRow.grow {w wr w2:World}{xs:List BA}{A A1:Option Addr}{n c c1:Nat}{o:Obj}{x:BA}(h:SRow w wr xs A n c)
  (hr:w2.ownsRow w.heap.size 9 1 (.slice A1 (n+1) c1) (n+1) (strCells xs++[.string x]))
  (hg:(wr.alloc o).grownBy w2 (Value.slice A n c).ownBlock):SRow w w2 (xs++[x]) A1 (n+1) c1:=by
 refine⟨by simp[h.len],by rw[show strCells (xs++[x])=strCells xs++[.string x] by simp[strCells]];exact hr,?_⟩
 exact(h.bel.alloc h.bel.size o).grown hg (by have:=h.bel.size;simp;omega) (fun j hj=>by have:=(h.row.lt j hj).1;omega)
theorem reads_str (w:World)(t:TypeId)(a:Value):Reads (w.alloc (.cells #[a] t)) (w.heap.size+1) 1 (some ⟨w.heap.size,0,none⟩) 1 [a]:=by
 refine⟨rfl,fun _=>⟨_,rfl,by simp,fun j u hu=>?_⟩⟩
 match j,hu with
 | 0,hu=>simp at hu;subst hu;simp[Addr.add]
 | j+1,hu=>simp at hu
theorem owns_cap {w:World}{base:Nat}{e:TypeId}{size n c:Nat}{A:Option Addr}{xs:List Value}(h:w.ownsRow base e size (.slice A n c) n xs):n≤c:=by
 rcases h.2 with⟨h0,h1⟩ | ⟨g,cap,cur,hv,_,_,h2,_⟩
 ·omega
 ·injection hv with _ _ h3;omega
theorem join_le (sep:LU)(b:Nat):∀ (l:List (LU)),(∀ x∈l,x.length≤b)→(Lib.join l sep).length≤l.length*(b+sep.length)
 | [],_=>by simp[Lib.join,List.intercalate]
 | [a],h=>by have:=h a (by simp);simp[Lib.join,List.intercalate];omega
 | a::c::r,h=>by
  have h1:=h a (by simp)
  have ih:=join_le sep b (c::r) (fun x hx=>h x (by simp at hx ⊢;exact .inr hx))
  have e:Lib.join (a::c::r) sep=a++sep++Lib.join (c::r) sep:=by simp[Lib.join,List.intercalate,List.intersperse]
  rw[e,List.length_append,List.length_append,List.length_cons,Nat.succ_mul]
  omega
theorem Wnt.text_eq (x:Wnt)(hx:x.right):bl (if x.no then (⟨#[33]⟩:BA)++(mkB x.name++aSign x.op++mkB x.ver) else mkB x.name++aSign x.op++mkB x.ver)=x.text:=by
 have h7:x.op<7:=by have:=hx.2.1;omega
 unfold Wnt.text
 cases x.no with
 | true=>simp[bl_append,bl_of,sgA_at x.op h7];rfl
 | false=>simp[bl_append,bl_of,sgA_at x.op h7]
theorem sgA_len (k:Nat):(sgA k).length≤2:=by unfold sgA;split<;>simp
theorem Wnt.text_len (x:Wnt)(hx:x.right):x.text.length≤131:=by
 obtain⟨z1,z2⟩:=hx.sizes
 have:=sgA_len x.op
 unfold Wnt.text;cases x.no<;>simp<;>omega
theorem adep_Print (A:Option Addr)(c:Nat)(L:List Wnt)(hL:∀ x∈L,x.right)(h64:L.length≤64)(w:World)(hG:Gl w)(hr:Rd w 4 A L.length (L.flatMap Wnt.cells)):
  Calls Tryz.prog 91 #[.slice A L.length c] w fun e w'=>e=.returned (.tuple #[.string (mkB (aText L)),.int .i64 0])∧Below w.heap.size w w':=by
 obtain⟨i0,hi0,hz0,hz1,hz2⟩:=info_parts info_str
 have HG:=hid hG;have HR:=hid hr;have HL:=hid hL
 clear hG hr hL
 go_enter Tryz.func91,Tryz.ntmps91
 go_wp2_with fail
 refine(adep_Check A c L HL.out h64 w HG.out HR.out).mono ?_;rintro e w0 ⟨rfl,hb0⟩
 have HB0:=hid hb0;clear hb0
 go_wp2_with fail
 go_loopw [5,16] (fun l i wr=>∃ (k:Nat) (xs:List BA) (B:Option Addr) (cc:Nat),k≤L.length∧l=.slice B k cc∧i=.int .i64 k∧Hid (SRow w0 wr xs B k cc)∧Hid (xs.map bl=(L.take k).map Wnt.text)) (fun _ i _=>L.length-(intOf i).toNat)
 case atStart=>exact⟨0,[],none,0,z0,rfl,rfl,SRow.nil w0,rfl⟩
 case round=>
  obtain⟨k,xs,B,cc,hk,rfl,rfl,HS,HT⟩:=hrel
  by_cases hlt:k<L.length
  ·obtain⟨x,hx⟩:∃ x,L[k]?=some x:=⟨_,gG hlt⟩
   obtain⟨b,off,hA,he⟩:=(HR.out.below (bthen HB0.out HS.out.bel)).elem wnt_len k x hx
   have e0:=he 0 _ rfl
   have e1:=he 1 _ rfl
   have e2:=he 2 _ rfl
   have e3:=he 3 _ rfl
   simp only[Nat.add_zero] at e0
   have hix:=fun W=>idx_of (T:=125) (E:=172) (sz:=4) (c:=c) Tryz.underlying125 rfl Tryz.sizeOf172 hA hlt W
   have HX:=hid (HL.out x (gM hx))
   have h7:x.op<7:=by have:=HX.out.2.1;omega
   have TK:Hid ((L.take (k+1)).map Wnt.text=(L.take k).map Wnt.text++[x.text]):=by
    show _=_;obtain⟨hk',hf'⟩:=gS hx;rw[tS hk',hf'];simp
   clear hx he hA
   have K0:Hid (Blk (wr.alloc (.cells #[.bool x.no,.string (mkB x.name),.int .i64 x.op,.string (mkB x.ver)] 172)) wr.heap.size x.cells):=Blk.new wr x.cells _
   have hsg:=(HG.out.below (bthen (bthen HB0.out HS.out.bel) (bR.alloc lr (.cells #[.bool x.no,.string (mkB x.name),.int .i64 x.op,.string (mkB x.ver)] 172)))).asg x.op h7
   have S0:=hid (HS.out.below (bR.alloc lr (.cells #[.bool x.no,.string (mkB x.name),.int .i64 x.op,.string (mkB x.ver)] 172)))
   have s1:(mkB x.name).size≤64:=by rw[mk_size];exact HX.out.sizes.1
   have s2:(mkB x.ver).size≤64:=by rw[mk_size];exact HX.out.sizes.2
   have s3:(aSign x.op).size≤2:=by rw[←bl_length,sgA_at x.op h7];exact sgA_len _
   go_upto_region 8 with(fail)
   go_cut [8] (fun v wx=>v=.string (mkB x.name++aSign x.op++mkB x.ver)∧Hid (SRow w0 wx xs B k cc)∧Hid (Blk wx wr.heap.size x.cells))
   case first=>
    go_quiet (fail)
    go_wp2_with fail
    go_meet
    exact⟨rfl,S0.out.below ⟨rfl,rfl,rfl,lr,fun _ _=>rfl⟩,K0.out.drewN _⟩
   case rest=>
   obtain⟨rfl,S1,K1⟩:=hcut
   clear e0 e1 e2 e3 hix hsg S0 K0
   have c0:=K1.out.cell 0 _ rfl
   have TX:=hid (x.text_eq HX.out)
   have hYz:(mkB x.name++aSign x.op++mkB x.ver).size≤130:=by
    have h1:=HX.out.sizes;have h2:=sgA_len x.op
    rw[←bl_length,bl_append,bl_append,bl_of,bl_of,sgA_at x.op h7];simp;omega
   generalize mkB x.name++aSign x.op++mkB x.ver=Y at *
   cases hno:x.no with
   | false=>
    rw[hno] at c0 TX
    have HTX:Hid (bl Y=x.text):=TX.out
    clear TX hno
    go_wp2_with (at_builtin;refine wpList_append_any _ rfl _ _ _ rfl w0.heap.size 9 i0 _ 1 16 Tryz.underlying22 hi0 hz0 hz1 hz2 rfl (by omega) (.slice B k cc) k _ rfl (S1.out.row.alloc _) (wc.heap.size+1) (some ⟨wc.heap.size,0,none⟩) 1 1 [.string Y] rfl (reads_str wc _ _) (by simp[Value.oneCell']) (by simp only[maxLen];omega) (by omega) (by simp;have:=S1.out.bel.size;omega) ?_;intro v1 w1 o1 g1 a1)
    obtain⟨A1,c1,rfl⟩:=owns_form o1
    have R1:=hid (S1.out.grow (x:=Y) o1 g1)
    clear o1 g1 a1
    go_wp2_with fail
    go_roundw
    case rel=>exact⟨k+1,xs++[Y],A1,c1,by omega,rfl,by go_num,R1,by show _=_;rw[TK.out,List.map_append,HT.out];simp[HTX.out]⟩
    case measure=>simp[intOf];omega
   | true=>
    rw[hno] at c0 TX
    have HTX:Hid (bl ((⟨#[33]⟩:BA)++Y)=x.text):=TX.out
    clear TX hno
    go_wp2_with (at_builtin;refine wpList_append_any _ rfl _ _ _ rfl w0.heap.size 9 i0 _ 1 16 Tryz.underlying22 hi0 hz0 hz1 hz2 rfl (by omega) (.slice B k cc) k _ rfl (S1.out.row.alloc _) (wc.heap.size+1) (some ⟨wc.heap.size,0,none⟩) 1 1 [.string (⟨#[33]⟩++Y)] rfl (reads_str wc _ _) (by simp[Value.oneCell']) (by simp only[maxLen];omega) (by omega) (by simp;have:=S1.out.bel.size;omega) ?_;intro v1 w1 o1 g1 a1)
    obtain⟨A1,c1,rfl⟩:=owns_form o1
    have R1:=hid (S1.out.grow (x:=⟨#[33]⟩++Y) o1 g1)
    clear o1 g1 a1
    go_wp2_with fail
    go_roundw
    case rel=>exact⟨k+1,xs++[⟨#[33]⟩++Y],A1,c1,by omega,rfl,by go_num,R1,by show _=_;rw[TK.out,List.map_append,HT.out];simp[HTX.out]⟩
    case measure=>simp[intOf];omega
  ·have hkL:k=L.length:=by omega
   have EX:Hid (xs.map bl=L.map Wnt.text):=by show _=_;rw[HT.out,hkL,List.take_length]
   have hln:=HS.out.len
   have hcap:=owns_cap HS.out.row
   have JL:Hid ((Lib.join (xs.map bl) (bl ⟨#[32]⟩)).length≤140737488355328):=by
    have h1:=join_le (bl ⟨#[32]⟩) 131 (xs.map bl) (fun y hy=>by rw[EX.out] at hy;obtain⟨z,hz,rfl⟩:=List.mem_map.1 hy;exact z.text_len (HL.out z hz))
    have h2:(bl ⟨#[32]⟩:LU).length=1:=rfl
    rw[h2,List.length_map,hln] at h1
    show _≤_;omega
   have HJ:=hid (fun (_:Unit)=>Join_any B cc xs ⟨#[32]⟩ wr (by rw[hln];exact owns_rd HS.out.row) (by omega) (by omega) JL.out)
   rw[hln] at HJ
   clear hcap JL hln hkL
   go_wp2_with fail
   refine(HJ.out ()).mono ?_;rintro e w2 ⟨rfl,hb2⟩
   have ET:Hid (mkB (Lib.join (xs.map bl) (bl ⟨#[32]⟩))=mkB (aText L)):=by show _=_;rw[EX.out];rfl
   have B2:Hid (Below w.heap.size w w2):=bthen (bthen HB0.out HS.out.bel) hb2
   clear hb2
   go_wp2_with fail
   go_ret2
   exact⟨by rw[←ET.out];rfl,B2.out⟩
end
section
open Go.RowKit
theorem r16_sign (o:Nat)(ho:o<7)(w:World):
  Calls Tryz.prog 218 #[.int .i64 o] w fun e w'=>e=.returned (.string (aSign o))∧Below w.heap.size w w':=by
 rcases(by omega:o=0∨o=1∨o=2∨o=3∨o=4∨o=5∨o=6) with rfl | rfl | rfl | rfl | rfl | rfl | rfl
 all_goals
  go_enter Tryz.func218,Tryz.ntmps218
  go_wp2_with fail
  go_ret
  exact⟨rfl,bR.alloc lr _⟩
theorem r16_Check (A:Option Addr)(c:Nat)(L:List Wnt)(hL:∀ x∈L,x.right)(h64:L.length≤64)(w:World)(hr:Rd w 4 A L.length (L.flatMap Wnt.cells)):
  Calls Tryz.prog 217 #[.slice A L.length c] w fun e w'=>e=.returned (.int .i64 0)∧Below w.heap.size w w':=by
 have HR:=hid hr;have HL:=hid hL
 clear hr hL
 go_enter Tryz.func217,Tryz.ntmps217
 go_wp2_with fail
 go_loopw [3] (fun i wr=>∃ k:Nat,k≤L.length∧i=.int .i64 k∧Hid (Below w.heap.size w wr)) (fun i _=>L.length-(intOf i).toNat)
 case atStart=>exact⟨0,z0,rfl,bR⟩
 case round=>
  obtain⟨k,hk,rfl,HB⟩:=hrel
  by_cases hlt:k<L.length
  ·obtain⟨x,hx⟩:∃ x,L[k]?=some x:=⟨_,gG hlt⟩
   obtain⟨b,off,hA,he⟩:=(HR.out.below HB.out).elem wnt_len k x hx
   have e1:=he 1 _ rfl
   have e2:=he 2 _ rfl
   have e3:=he 3 _ rfl
   have hix:=fun W=>idx_of (T:=125) (E:=172) (sz:=4) (c:=c) Tryz.underlying125 rfl Tryz.sizeOf172 hA hlt W
   have hX:=HL.out x (gM hx)
   obtain⟨z1,z2⟩:=hX.sizes
   obtain⟨h1,h2,h3,h4⟩:=hX
   have s1:(mkB x.name).size≤64:=by rw[mk_size];exact z1
   have s2:(mkB x.ver).size≤64:=by rw[mk_size];exact z2
   have hN:=fun W=>r16_Name (mkB x.name) W (by omega)
   rw[bl_of,h1] at hN
   clear hx he hA h1 z1 z2
   by_cases o0:x.op=0
   ·have hv:mkB x.ver=⟨#[]⟩:=by rw[h3 o0];rfl
    rw[hv] at e3
    rw[o0] at e2
    clear h2 h3 h4 s2 hv o0
    generalize mkB x.name=N at *
    go_wp2_with fail
    refine(hN _).mono ?_;rintro e w' ⟨rfl,rfl⟩
    go_wp2_with fail
    go_roundw
    case rel=>exact⟨k+1,by omega,by go_num,HB.out.alloc HB.out.size _⟩
    case measure=>simp[intOf];omega
   ·have hv:=h4 (by omega)
    have o1:decide ((x.op:Int)<0)=false:=dF (by omega)
    have o2:decide ((6:Int)<(x.op:Int))=false:=dF (by omega)
    have o3:((x.op:Int)==0)=false:=by simp;omega
    have o4:decide ((0:Int)<(x.op:Int))=true:=dT (by omega)
    have o5:decide (0<x.op)=true:=dT (by omega)
    have hC:=fun W=>r12_Check 3 (mkB x.ver) W (by omega)
    rw[hv] at hC
    clear h2 h3 h4 hv
    generalize mkB x.name=N at *
    generalize mkB x.ver=V at *
    generalize x.op=o at *
    go_wp2_with fail
    refine(hN _).mono ?_;rintro e w' ⟨rfl,rfl⟩
    go_wp2_with fail
    refine(hC _).mono ?_;rintro e w1 ⟨rfl,hb1⟩
    have B2:Hid (Below w.heap.size w w1):=bthen (HB.out.alloc HB.out.size _) hb1
    clear hb1
    go_wp2_with fail
    go_roundw
    case rel=>exact⟨k+1,by omega,by go_num,B2⟩
    case measure=>simp[intOf];omega
  ·go_wp2_with fail
   go_ret
   exact⟨rfl,HB.out⟩
end
end Go.Proofs.YtdfdllbebfoggaaGreatDoor
