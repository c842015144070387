/- A part of the proof. -/
import Derived.Test.YtaohgmcbpafdeaaGreatDoorCards
import Derived.Test.YtaohgmcbpafdeaaGreatDoorProg
import Derived.Test.YtaohgmcbpafdeaaGreatDoorTie
import Derived.BigQuiet
import Derived.Deep.CutBlock
import Derived.Deep.DeepCutAuto
import Derived.Deep.DeepHandedRow
import Derived.Deep.DeepWitnessRowRef
import Derived.Deep.Draws
import Derived.Deep.LoopGhost
import Derived.Deep.QuietTactic
import Derived.IntWalk
import Derived.LaidHandle
import Derived.Lay
import Derived.Lib.LaidTab
import Derived.OpenShut
import Derived.ProofKit
import Derived.WalkKit
import Derived.WalkLawsBesides
import Derived.WalkSpells
import Derived.Test.YtaohgmcbpafdeaaGreatDoorA00
set_option maxRecDepth 100000
set_option maxHeartbeats 20000000
set_option linter.unusedVariables false
set_option linter.unusedSimpArgs false
namespace Go.Proofs.YtaohgmcbpafdeaaGreatDoor
section
open Go.RowKit
structure ax (wr:World) (b:Nat) (vs:LV):Prop where
 sz:b<wr.heap.size
 cell:∀ (j:Nat)(u:Value),vs[j]?=some u→wr.cell? ⟨b,j,none⟩=some u
 free:∀ j:Nat,j<vs.length→wr.frozen? ⟨b,j,none⟩=false
theorem ax.new (w:World)(vs:LV)(t:TypeId):ax (w.alloc (.cells vs.toArray t)) w.heap.size vs:=
 ⟨by simp,fun j u hu=>by simp[hu],fun j _=>by simp⟩
theorem ax.below {wr w':World}{b:Nat}{vs:LV}(h:ax wr b vs)(hb:Below wr.heap.size wr w'):ax w' b vs:=
 ⟨Nat.lt_of_lt_of_le h.sz hb.size,fun j u hu=>(hb.cell (p:=⟨b,j,none⟩) h.sz).trans (h.cell j u hu),fun j hj=>(hb.frozen (p:=⟨b,j,none⟩) h.sz).trans (h.free j hj)⟩
theorem ax.belowN {wr w':World}{b n:Nat}{vs:LV}(h:ax wr b vs)(hb:Below n wr w')(hn:b<n):ax w' b vs:=
 ⟨Nat.lt_of_lt_of_le h.sz hb.size,fun j u hu=>(hb.cell (p:=⟨b,j,none⟩) hn).trans (h.cell j u hu),fun j hj=>(hb.frozen (p:=⟨b,j,none⟩) hn).trans (h.free j hj)⟩
theorem ax.alloc {wr:World}{b:Nat}{vs:LV}(h:ax wr b vs)(o:Obj):ax (wr.alloc o) b vs:=h.below (bR.alloc lr o)
theorem ax.drewN {wr:World}{b:Nat}{vs:LV}(h:ax wr b vs)(k:Nat):ax (wr.drewN k) b vs:=h.below ⟨rfl,rfl,rfl,lr,fun _ _=>rfl⟩
theorem ax.drew {wr:World}{b:Nat}{vs:LV}(h:ax wr b vs):ax wr.drew b vs:=h.below ⟨rfl,rfl,rfl,lr,fun _ _=>rfl⟩
theorem ax.set {wr:World}{b:Nat}{vs:LV}(h:ax wr b vs)(j:Nat)(hj:j<vs.length)(v:Value):ax (wr.setCell ⟨b,j,none⟩ v) b (vs.set j v):=by
 refine⟨by simpa using h.sz,fun i u hu=>?_,fun i hi=>by rw[World.frozen?_setCell];exact h.free i (by simpa using hi)⟩
 by_cases e:j=i
 ·subst e
  rw[List.getElem?_set_self hj] at hu
  injection hu with hu;subst hu
  exact World.cell?_setCell_same' _ _ _ (by rw[h.cell j vs[j] (gG hj)];rfl)
 ·rw[List.getElem?_set_ne e] at hu
  rw[World.cell?_setCell_other (h:=by intro h;injection h with _ h;exact e h)]
  exact h.cell i u hu
theorem ax.far {wr:World}{b c j:Nat}{vs:LV}(h:ax wr b vs)(hne:c≠b)(v:Value):ax (wr.setCell ⟨c,j,none⟩ v) b vs:=
 ⟨by simpa using h.sz,fun i u hu=>by rw[World.cell?_setCell_other (h:=by intro h;injection h with h;exact hne h)];exact h.cell i u hu,fun i hi=>by rw[World.frozen?_setCell];exact h.free i hi⟩
theorem ak {n c j:Nat}{a wr:World}(h:Below n a wr)(hc:n≤c)(v:Value):Below n a (wr.setCell ⟨c,j,none⟩ v):=h.setCell (p:=⟨c,j,none⟩) hc v
def nv (x:BitVec 32):Int:=(x.toNat:Int)
theorem Ol (x:BitVec 32):0≤nv x:=by unfold nv;omega
theorem Om (x:BitVec 32):nv x≤4294967295:=by have:=x.isLt;unfold nv;omega
theorem iK (x:BitVec 32):BitVec.ofInt 32 (nv x)=x:=by
 unfold nv
 rw[BitVec.ofInt_natCast,BitVec.ofNat_toNat,BitVec.setWidth_eq]
theorem qX (x:BitVec 32):IntKind.u32.wrap (x.toNat:Int)=nv x:=IntWalk.u32_in _ ⟨Ol x,Om x⟩
theorem rK (x y:BitVec 32):bits .and .u32 (nv x) (nv y)=nv (x &&& y):=by
 show IntKind.u32.wrap ((BitVec.ofInt 32 (nv x) &&& BitVec.ofInt 32 (nv y)).toNat:Int)=_
 rw[iK,iK,qX]
theorem yK (x y:BitVec 32):bits .or .u32 (nv x) (nv y)=nv (x ||| y):=by
 show IntKind.u32.wrap ((BitVec.ofInt 32 (nv x) ||| BitVec.ofInt 32 (nv y)).toNat:Int)=_
 rw[iK,iK,qX]
theorem wU (x y:BitVec 32):bits .xor .u32 (nv x) (nv y)=nv (x ^^^ y):=by
 show IntKind.u32.wrap ((BitVec.ofInt 32 (nv x) ^^^ BitVec.ofInt 32 (nv y)).toNat:Int)=_
 rw[iK,iK,qX]
theorem wV (x:BitVec 32):bits .xor .u32 4294967295 (nv x)=nv (~~~x):=by
 show IntKind.u32.wrap ((BitVec.ofInt 32 (4294967295:Int) ^^^ BitVec.ofInt 32 (nv x)).toNat:Int)=_
 rw[iK,show BitVec.ofInt 32 (4294967295:Int)=BitVec.allOnes 32 from rfl,BitVec.allOnes_xor,qX]
theorem oT (x y:BitVec 32):(nv x+nv y) % 4294967296=nv (x+y):=by
 unfold nv
 rw[BitVec.toNat_add]
 omega
theorem eM (x y:BitVec 32):IntKind.u32.wrap (nv x+nv y)=nv (x+y):=by rw[IntKind.wrap_u32,oT]
theorem MU (x:BitVec 32)(k:Nat):nv x*2 ^ k % 4294967296=nv (x <<< k):=by
 unfold nv
 rw[BitVec.toNat_shiftLeft,Nat.shiftLeft_eq]
 simp
theorem Iv (x:BitVec 32)(k:Nat):nv x / 2 ^ k=nv (x >>> k):=by
 unfold nv
 rw[BitVec.toNat_ushiftRight,Nat.shiftRight_eq_div_pow]
 simp
def rl (k:Nat)(x:BitVec 32):BitVec 32:=(x <<< k) ||| (x >>> (32-k))
def rr (k:Nat)(x:BitVec 32):BitVec 32:=rl (32-k) x
theorem gn (x y:BitVec 32):∃ z,IntKind.u32.wrap (nv x+nv y)=nv z∧(nv x+nv y) % 4294967296=nv z∧Hid (z=x+y):=⟨_,eM _ _,oT _ _,rfl⟩
theorem mp (x y:BitVec 32):∃ z,bits .and .u32 (nv x) (nv y)=nv z∧Hid (z=x &&& y):=⟨_,rK _ _,rfl⟩
theorem MV (x y:BitVec 32):∃ z,bits .or .u32 (nv x) (nv y)=nv z∧Hid (z=x ||| y):=⟨_,yK _ _,rfl⟩
theorem gd (x y:BitVec 32):∃ z,bits .xor .u32 (nv x) (nv y)=nv z∧Hid (z=x ^^^ y):=⟨_,wU _ _,rfl⟩
theorem Mv (x:BitVec 32):∃ z,bits .xor .u32 (if IntKind.u32.signed=true then -1 else IntKind.u32.max) (nv x)=nv z∧Hid (z= ~~~x):=⟨_,wV _,rfl⟩
theorem On:∀ k:Nat,k<32→bits .and .u64 (k:Int) 31=(k:Int):=by decide
theorem dh (x:BitVec 32)(k:Nat)(hk:k<32)(hk0:0<k)(w:World):
  Calls Tryz.prog 175 #[.int .u32 (nv x),.int .i64 (k:Int)] w fun e w'=>e=.returned (.int .u32 (nv (rl k x)))∧w'=w:=by
 have hs:=MU x k
 have hr:=Iv x (32-k)
 have ha:=On k hk
 have ho:=yK (x <<< k) (x >>> (32-k))
 rw[show x <<< k ||| x >>> (32-k)=rl k x from rfl] at ho
 have e32:IntKind.u64.wrap (32-(k:Int))=32-(k:Int):=IntWalk.u64_in _ (by omega)
 go_enter Tryz.func175,Tryz.ntmps175
 go_wp2_with fail
 go_ret
 exact⟨rfl,rfl⟩
theorem aZ (x:BitVec 32)(k:Nat)(hk:k<32)(hk0:0<k)(w:World):
  Calls Tryz.prog 176 #[.int .u32 (nv x),.int .i64 (k:Int)] w fun e w'=>e=.returned (.int .u32 (nv (rr k x)))∧w'=w:=by
 go_enter Tryz.func176,Tryz.ntmps176
 go_wp2_with fail
 rw[show(32:Int)-(k:Int)=((32-k:Nat):Int) by omega]
 refine(dh x (32-k) (by omega) (by omega) w).mono ?_;rintro e w' ⟨rfl,rfl⟩
 go_wp2_with fail
 go_ret
 exact⟨rfl,rfl⟩
end
section
open Go.ChangeShapes Go.WideShapes Go.ChangeAt Go.RowKit
theorem own:ownKnob Tryz.prog.godebug=none:=by kernel_rfl
def lI:List (String×DataW Unit):=Rows.auditCleanRow.laid
def iB : List (String × DataW Unit) := [("drayage/api.Md5Table", Rows.laid_drayage_api_Md5Table), ("drayage/api.ShaTable", Rows.laid_drayage_api_ShaTable), ("unicode/utf8.acceptRanges", Rows.laid_unicode_utf8_acceptRanges), ("drayage/digest.turns", Rows.laid_drayage_digest_turns), ("drayage/version.words", Rows.laid_drayage_version_words), ("drayage/adep.signs", Rows.laid_drayage_adep_signs), ("drayage/ddep.signs", Rows.laid_drayage_ddep_signs), ("drayage/rdep.signs", Rows.laid_drayage_rdep_signs), ("drayage/rdep.words", Rows.laid_drayage_rdep_words), ("unicode/utf8.first", Rows.laid_unicode_utf8_first)]
theorem oL {W:World}(h:laidMetH Tryz.prog lI W):laidMet Tryz.prog iB W:=h.1
noncomputable def fD (os:Os):World:=
 ({ World.holding Tryz.prog os ⟨#[],#[],[]⟩ with heap:=(World.holding Tryz.prog os ⟨#[],#[],[]⟩).heap.modify 8 fun
   | .cells _ t frozen=>.cells #[.iface 327 (.agg #[typeHandle Tryz.prog 237])] t frozen
   | o=>o }:World).layVars Tryz.prog iB
theorem yi (os:Os):(fD os).os=os:=World.layVars_os _ _ _
theorem KG (os:Os)(args:Array Value):laidMet Tryz.prog iB ((fD os).forCall (fun _ _=>0) ⟨#[],args,[]⟩).memory:=by
 have h:laidMet Tryz.prog iB (fD os):=by
  refine laidMet_layVars (w0:={ World.holding Tryz.prog os ⟨#[],#[],[]⟩ with heap:=(World.holding Tryz.prog os ⟨#[],#[],[]⟩).heap.modify 8 fun
   | .cells _ t frozen=>.cells #[.iface 327 (.agg #[typeHandle Tryz.prog 237])] t frozen
   | o=>o }) (iB.map (·.1)) [] ?_ ?_ ?_ ?_
  ·rfl
  ·kernel_rfl
  ·kernel_rfl
  ·exact LaidIn.none
 exact h.of_heap (by simp[World.memory,World.forCall,Input.heap])
theorem KH (os:Os)(args:Array Value):laidMetH Tryz.prog lI ((fD os).forCall (fun _ _=>0) ⟨#[],args,[]⟩).memory:=
 laidMetH_of_parts (KG os args) (by kernel_rfl)
theorem KI (os:Os)(args:Array Value):((fD os).forCall (fun _ _=>0) ⟨#[],args,[]⟩).variablesRefB Tryz.prog=true:=by kernel_rfl
theorem KJ (os:Os)(args:Array Value):(((fD os).forCall (fun _ _=>0) ⟨#[],args,[]⟩).heap.toList.drop Tryz.prog.globals.size).take ((begin Tryz.prog (fun _ _=>0) default).world.heap.size-Tryz.prog.globals.size) =
   (begin Tryz.prog (fun _ _=>0) default).world.heap.toList.drop Tryz.prog.globals.size:=by kernel_rfl
end
end Go.Proofs.YtaohgmcbpafdeaaGreatDoor
