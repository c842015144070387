/- A part of the proof that ModelPackages holds. No condition. -/
import Derived.Test.YtdfdllbebfoggaaGreatDoorC04
import Derived.Test.YtdfdllbebfoggaaGreatDoorC08
import Derived.Test.YtdfdllbebfoggaaGreatDoorC14
set_option maxRecDepth 100000
set_option maxHeartbeats 20000000
set_option linter.unusedVariables false
set_option linter.unusedSimpArgs false
namespace Go.Proofs.YtdfdllbebfoggaaGreatDoor
section
open Go.RowKit
theorem ixB_stop (s:ByteArray)(c:UInt8)(k:Nat)(h:k<s.size)(h0:((bl s).take k).contains c=false)(h1:s[k]=c):ixB s c=k:=by
 unfold ixB
 have key:∀ (l:List UInt8)(k:Nat),(l.take k).contains c=false→l[k]?=some c→Lib.indexByte l c=k:=by
  intro l
  induction l with
  | nil=>intro k _ h;simp at h
  | cons b r ih=>
   intro k h0 h1
   cases k with
   | zero=>simp at h1;subst h1;simp[Lib.indexByte]
   | succ k=>
    simp at h1
    rw[List.take_succ_cons,List.contains_cons,Bool.or_eq_false_iff] at h0
    have hb:(b==c)=false:=by have:=h0.1;simp at this ⊢;exact fun e=>this e.symm
    have hr:=ih k h0.2 h1
    simp only[Lib.indexByte,hb,hr]
    rw[if_neg (by simp),if_neg (by simp;try omega)];omega
 exact key (bl s) k h0 (by rw[bl_get? s k h,h1])
theorem ixB_none (s:ByteArray)(c:UInt8)(h:(bl s).contains c=false):ixB s c=-1:=by
 have h1:=ixB_neg s c h
 have h2:=Lib.indexByte_ge (bl s) c
 unfold ixB at *;omega
theorem ref01_Find (s:ByteArray)(c:UInt8)(w:World)(hs:s.size≤9223372036854775807):
  Calls Tryz.prog 220 #[.string s,.int .u8 c.toNat] w fun e w'=>e=.returned (.int .i64 (ixB s c))∧w=w':=by
 go_enter Tryz.func220,Tryz.ntmps220
 go_wp2_with fail
 go_loop [5] (fun i=>∃ k:Nat,k≤s.size∧i=.int .i64 k∧Hid (((bl s).take k).contains c=false)) (fun i=>s.size-(intOf i).toNat)
 case atStart=>exact⟨0,Nat.zero_le _,rfl,by simp[Hid]⟩
 case round=>
  obtain⟨k,hk,rfl,HA⟩:=hrel
  by_cases hlt:k<s.size
  ·by_cases hc:s[k]=c
   ·have hc1:((s[k].toNat:Int)==(c.toNat:Int))=true:=by rw[hc];simp
    have HC:=hid hc
    clear hc
    go_wp2_with fail
    go_ret
    exact⟨ret_int (ixB_stop s c k hlt HA.out HC.out).symm,rfl⟩
   ·have hc1:((s[k].toNat:Int)==(c.toNat:Int))=false:=by
     simp only[beq_eq_false_iff_ne,ne_eq];intro h;apply hc;apply UInt8.toNat_inj.1;omega
    have HC:=hid hc
    clear hc
    go_wp2_with fail
    go_round
    case rel=>exact⟨k+1,by omega,by go_num,hid (contains_take_next s c k hlt HA.out (by simpa using HC.out))⟩
    case measure=>simp[intOf];omega
  ·go_wp2_with fail
   go_ret
   exact⟨ret_int (ixB_none s c (by have:=HA.out;rw[bl_take_ge s k (by omega)] at this;exact this)).symm,rfl⟩
theorem hex_ix_bd (c:UInt8)(h:hexL.contains c=true):0≤ixB hexS c∧ixB hexS c≤15:=by
 refine⟨ixB_pos hexS c h,?_⟩
 have hm:c∈hexL:=by simpa using h
 simp only[hexL,List.mem_cons,List.not_mem_nil,or_false] at hm
 rcases hm with rfl | rfl | rfl | rfl | rfl | rfl | rfl | rfl | rfl | rfl | rfl | rfl | rfl | rfl | rfl | rfl<;>decide
theorem hex_ix_neg (c:UInt8)(h:hexL.contains c=false):ixB hexS c<0:=ixB_neg hexS c h
theorem info_u8:(Tryz.prog.info? 5).map (fun i=>(i.zero,i.size,i.bytes))=some (some (.int .u8 0),1,1):=by kernel_rfl
theorem idx_int {T E:TypeId}{sz:Nat}(hT:Tryz.prog.underlying T=some (.slice (Tryz.prog.elem T)))(hE:Tryz.prog.elem T=E)(hs:∀ w,(sizeOf E).run Tryz.prog w=.ok sz w)
  {A:Option Addr}{n c k b off:Nat}{i:Int}(hi:i=k)(hA:A=some ⟨b,off,none⟩)(hk:k<n)(w:World):(Instr.indexAt T (.slice A n c) (.int .i64 i)).run Tryz.prog w=.ok (.pointer (some ⟨b,off+k*sz,none⟩)) w:=by
 subst hi;exact idx_of hT hE hs hA hk w
theorem reads_oneV (w:World)(t:TypeId)(x:Value):Reads (w.alloc (.cells #[x] t)) (w.heap.size+1) 1 (some ⟨w.heap.size,0,none⟩) 1 [x]:=by
 refine⟨rfl,fun _=>⟨_,rfl,by simp,fun j u hu=>?_⟩⟩
 cases j with
 | zero=>simp at hu;subst hu;simp[Addr.add]
 | succ j=>simp at hu
theorem reads_oneVd (w:World)(t:TypeId)(x:Value):Reads (w.alloc (.cells #[x] t)).drew (w.heap.size+1) 1 (some ⟨w.heap.size,0,none⟩) 1 [x]:=reads_oneV w t x
theorem Bx.grown {w w1 w2:World}{vs:List Value}{row:Option Nat}(h:Bx w w1 vs)(hg:w1.grownBy w2 row)(hr:∀ g,row=some g→w.heap.size<g):Bx w w2 vs:=by
 have hb:w2.heap[w.heap.size]?=w1.heap[w.heap.size]?:=hg.block _ h.sz (fun e=>by have:=hr _ e.symm;omega)
 exact⟨h.bel.grown hg h.bel.size (fun j hj=>by have:=hr j hj;omega),Nat.lt_of_lt_of_le h.sz hg.size,fun j u hu=>(World.cell?_of_block (a:=⟨w.heap.size,j,none⟩) hb).trans (h.cell j u hu),fun j hj=>(World.frozen?_of_block (a:=⟨w.heap.size,j,none⟩) hb).trans (h.free j hj)⟩
theorem Bx.alloc {w w1:World}{vs:List Value}(h:Bx w w1 vs)(o:Obj):Bx w (w1.alloc o) vs:=h.step ((Below.refl _ _).alloc lr o)
def UnhexPost (l:List UInt8)(w:World)(e:Ending)(w':World):Prop:=∃ (A:Option Addr)(n c:Nat),e=.returned (.agg #[.slice A n c,.int .i64 0,.int .i64 (if hexB l then 0 else 3)])∧Below w.heap.size w w'
theorem ref_Unhex (s:ByteArray)(w:World)(hs:s.size≤100000)(hev:s.size % 2=0):
  Calls Tryz.prog 155 #[.string s] w (UnhexPost (bl s) w):=by
 obtain⟨i0,hi0,hz0,hz1,hz2⟩:=info_parts info_u8
 go_enter Tryz.func155,Tryz.ntmps155
 go_wp2_with fail
 go_loop [3] (fun i=>∃ k:Nat,k≤s.size∧i=.int .i64 k∧Hid (((bl s).take k).all (fun c=>hexL.contains c)=true)) (fun i=>s.size-(intOf i).toNat)
 case atStart=>exact⟨0,Nat.zero_le _,rfl,by simp[Hid]⟩
 case round=>
  obtain⟨k,hk,rfl,HA⟩:=hrel
  by_cases hlt:k<s.size
  ·go_wp2_with fail
   refine(ref01_Find hexS s[k] _ (by decide)).mono ?_;rintro e w' ⟨rfl,rfl⟩
   cases hc:hexL.contains s[k]
   ·have hneg:=hex_ix_neg _ hc
    have HE:Hid (hexB (bl s)=false):=bl_all_false s k hlt hc
    clear hc
    go_wp2_with fail
    refine bodyPost_ret (v:=.agg #[.slice none 0 0,.int .i64 0,.int .i64 3]) (by simp[results,Tryz.results155,go_sem]) rfl ⟨_,_,_,by rw[HE.out];rfl,?_⟩
    exact(Below.refl _ _).alloc lr _
   ·have hb:=hex_ix_bd _ hc
    have HC:=hid hc
    clear hc
    go_wp2_with fail
    go_round
    case rel=>exact⟨k+1,by omega,by go_num,hid (by rw[bl_take_all s k hlt,HA.out,HC.out];rfl)⟩
    case measure=>simp[intOf];omega
  ·have HALL:Hid ((bl s).all (fun c=>hexL.contains c)=true):=by have:=HA.out;rw[bl_take_ge s k (by omega)] at this;exact this
   have HE:Hid (hexB (bl s)=true):=HALL.out
   have hev1:(((s.size:Int) % 2)==1)=false:=by simp;omega
   go_wp2_with fail
   go_loopw [4,5] (fun o i wr=>∃ (j n:Nat) (xs:List Value),j≤s.size∧n≤s.size∧i=.int .i64 j∧Hid (j=2*n)∧Hid (wr.ownsRow (w.heap.size+1) 5 1 o n xs)∧Hid (Bx w wr [.slice none 0 0,.int .i64 0,.int .i64 0])) (fun _ i _=>s.size-(intOf i).toNat)
   case atStart=>exact⟨0,0,[],by omega,by omega,rfl,rfl,World.ownsRow_nil _ _ _ _,Bx.start w [.slice none 0 0,.int .i64 0,.int .i64 0] _⟩
   case round=>
    obtain⟨j,n,xs,hj,hn,rfl,HJ,HO,HX⟩:=hrel
    obtain⟨Ao,co,rfl⟩:=owns_form HO.out
    by_cases hlt2:j<s.size
    ·have hlt3:j+1<s.size:=by have:=HJ.out;omega
     have hn2:n+1≤s.size:=by have:=HJ.out;omega
     have i2:(j:Int)+1<(s.size:Int):=by omega
     have i3:(0:Int)≤(j:Int)+1:=by omega
     have i4:IntKind.i64.wrap ((j:Int)+1)=(j:Int)+1:=IntWalk.i64_in _ (by omega)
     have i5:((j:Int)+1).toNat=j+1:=by omega
     have hsz:=HX.out.sz
     go_wp2_with fail
     go_region_law (first
      | (refine step_append_any _ (by rfl) _ _ _ (by rfl) (w.heap.size+1) 5 i0 _ 1 1 Tryz.underlying189 hi0 hz0 hz1 hz2 rfl (by omega) (.slice Ao n co) n xs (by rfl) ((HO.out.alloc _).drew) (wr.heap.size+1) (some ⟨wr.heap.size,0,none⟩) 1 1 _ (by rfl) (reads_oneVd wr _ _) (by simp[Value.oneCell']) (by simp only[maxLen];omega) (by omega) (by simp;omega) ?_
         intro v1 w2 o2 g2 a2)
      | (go_simp;go_at_call 220;refine(ref01_Find hexS _ _ (by decide)).mono ?_;rintro e w' ⟨rfl,rfl⟩))
     all_goals
      clear i4
      obtain⟨ys,O2⟩:∃ ys,Hid (w2.ownsRow (w.heap.size+1) 5 1 v1 (n+1) ys):=⟨_,hid o2⟩
      have X2:Hid (Bx w w2 [.slice none 0 0,.int .i64 0,.int .i64 0]):=((HX.out.alloc _).drewN 1).grown g2 (fun g hg=>(HO.out.lt g hg).1)
      clear o2 g2 a2
      go_wp2_with fail
      go_roundw
      case rel=>exact⟨j+2,n+1,_,by omega,by omega,by go_num,hid (by have:=HJ.out;omega),O2,X2⟩
      case measure=>simp[intOf];omega
    ·have c0:=HX.out.cell 0 _ rfl
     have c1:=HX.out.cell 1 _ rfl
     have c2:=HX.out.cell 2 _ rfl
     have f0:=HX.out.free 0 (by simp)
     have f1:=HX.out.free 1 (by simp)
     have f2:=HX.out.free 2 (by simp)
     go_wp2_with fail
     refine bodyPost_ret (v:=.agg #[.slice Ao n co,.int .i64 0,.int .i64 0]) (by simp[results,Tryz.results155,go_sem,c0,c1,c2]) rfl ⟨_,_,_,by rw[HE.out];rfl,?_⟩
     exact((HX.out.bel.setCell lr _).setCell lr _).setCell lr _
end
section
open Go.RowKit
def PartPost (r:Option (List UInt8×List UInt8×List UInt8))(w:World)(e:Ending)(w':World):Prop:=
 ∃ (ep pr rv:ByteArray) (ok:Bool),e=.returned (.agg #[.string ep,.string pr,.string rv,.bool ok])∧(match r with | some (a,b,d)=>ok=true∧bl ep=a∧bl pr=b∧bl rv=d | none=>ok=false)∧Below w.heap.size w w'
theorem cut_of {c:UInt8}:∀ (l:List UInt8)(k:Nat),(l.take k).contains c=false→l[k]?=some c→Lib.cut l [c]=(l.take k,l.drop (k+1),true):=by
 intro l k h0 h1
 have hk:k<l.length:=(List.getElem?_eq_some_iff.1 h1).1
 have hi:Lib.indexByte l c=k:=by
  have key:∀ (l:List UInt8)(k:Nat),(l.take k).contains c=false→l[k]?=some c→Lib.indexByte l c=k:=by
   intro l
   induction l with
   | nil=>intro k _ h;simp at h
   | cons b r ih=>
    intro k h0 h1
    cases k with
    | zero=>simp at h1;subst h1;simp[Lib.indexByte]
    | succ k=>
     simp at h1
     rw[List.take_succ_cons,List.contains_cons,Bool.or_eq_false_iff] at h0
     have hb:(b==c)=false:=by have:=h0.1;simp at this ⊢;exact fun e=>this e.symm
     have hr:=ih k h0.2 h1
     simp only[Lib.indexByte,hb,hr]
     rw[if_neg (by simp),if_neg (by simp;try omega)];omega
  exact key l k h0 h1
 unfold Lib.cut
 rw[Lib.index_one,hi]
 simp
theorem cut_none {c:UInt8}(l:List UInt8)(h:l.contains c=false):Lib.cut l [c]=(l,[],false):=by
 have hi:Lib.indexByte l c=-1:=by
  have h1:=ixB_none ⟨l.toArray⟩ c (by simpa [bl] using h)
  simpa [ixB,bl] using h1
 unfold Lib.cut
 rw[Lib.index_one,hi]
 simp
end
section
open Go.RowKit
theorem got_E (A:Option Addr)(n c:Nat)(x y:Int)(w:World):(Instr.field 191 (.agg #[.slice A n c,.int .i64 x,.int .i64 y]) 2).run Tryz.prog w=.ok (.int .i64 y) w:=by kernel_rfl
theorem ref_Sum (fmt:Int)(hf:fmt=1∨fmt=2∨fmt=3)(s:ByteArray)(w:World)(hs:s.size≤9223372036854775807):
  Calls Tryz.prog 107 #[.int .i64 fmt,.string s] w fun e w'=>e=.returned (.bool (sgB fmt s))∧Below w.heap.size w w':=by
 have key:∀ n:Nat,sumLen fmt=n→sgB fmt s=(decide (s.size=n)&&hexB (bl s)):=fun n hn=>by unfold sgB;rw[hn]
 rcases hf with rfl | rfl | rfl
 ·have K:=hid (key 32 (by decide))
  clear key
  by_cases hl:s.size=32
  ·have hl1:((s.size:Int)==32)=true:=u8_beq hl
   have hev:s.size % 2=0:=by omega
   have E:Hid (sgB 1 s=hexB (bl s)):=by show _=_;rw[K.out,decide_eq_true hl];rfl
   have hsz:s.size≤100000:=by omega
   clear hl
   go_enter Tryz.func107,Tryz.ntmps107
   go_wp2_with fail
   refine(ref_Unhex s _ hsz hev).mono ?_;rintro e w1 ⟨Ab,nb,cb,rfl,hb⟩
   have HB:=hid hb;clear hb
   have hfd:=fun x=>got_E Ab nb cb 0 x w1
   cases hx:hexB (bl s)
   ·have E2:Hid (sgB 1 s=false):=by show _=_;rw[E.out];exact hx
    simp only[Bool.false_eq_true,if_false]
    go_wp2_with fail
    go_ret
    exact⟨ret_bool (by rw[E2.out]),HB.out⟩
   ·have E2:Hid (sgB 1 s=true):=by show _=_;rw[E.out];exact hx
    simp only[if_true]
    go_wp2_with fail
    go_ret
    exact⟨ret_bool (by rw[E2.out]),HB.out⟩
  ·have hl1:((s.size:Int)==32)=false:=u8_bne hl
   have E:Hid (sgB 1 s=false):=by show _=_;rw[K.out,decide_eq_false hl];rfl
   clear hl
   go_enter Tryz.func107,Tryz.ntmps107
   go_wp2_with fail
   go_ret
   exact⟨ret_bool (by rw[E.out]),Below.refl _ _⟩
 ·have K:=hid (key 64 (by decide))
  clear key
  by_cases hl:s.size=64
  ·have hl1:((s.size:Int)==64)=true:=u8_beq hl
   have hev:s.size % 2=0:=by omega
   have E:Hid (sgB 2 s=hexB (bl s)):=by show _=_;rw[K.out,decide_eq_true hl];rfl
   have hsz:s.size≤100000:=by omega
   clear hl
   go_enter Tryz.func107,Tryz.ntmps107
   go_wp2_with fail
   refine(ref_Unhex s _ hsz hev).mono ?_;rintro e w1 ⟨Ab,nb,cb,rfl,hb⟩
   have HB:=hid hb;clear hb
   have hfd:=fun x=>got_E Ab nb cb 0 x w1
   cases hx:hexB (bl s)
   ·have E2:Hid (sgB 2 s=false):=by show _=_;rw[E.out];exact hx
    simp only[Bool.false_eq_true,if_false]
    go_wp2_with fail
    go_ret
    exact⟨ret_bool (by rw[E2.out]),HB.out⟩
   ·have E2:Hid (sgB 2 s=true):=by show _=_;rw[E.out];exact hx
    simp only[if_true]
    go_wp2_with fail
    go_ret
    exact⟨ret_bool (by rw[E2.out]),HB.out⟩
  ·have hl1:((s.size:Int)==64)=false:=u8_bne hl
   have E:Hid (sgB 2 s=false):=by show _=_;rw[K.out,decide_eq_false hl];rfl
   clear hl
   go_enter Tryz.func107,Tryz.ntmps107
   go_wp2_with fail
   go_ret
   exact⟨ret_bool (by rw[E.out]),Below.refl _ _⟩
 ·have K:=hid (key 40 (by decide))
  clear key
  by_cases hl:s.size=40
  ·have hl1:((s.size:Int)==40)=true:=u8_beq hl
   have hev:s.size % 2=0:=by omega
   have E:Hid (sgB 3 s=hexB (bl s)):=by show _=_;rw[K.out,decide_eq_true hl];rfl
   have hsz:s.size≤100000:=by omega
   clear hl
   go_enter Tryz.func107,Tryz.ntmps107
   go_wp2_with fail
   refine(ref_Unhex s _ hsz hev).mono ?_;rintro e w1 ⟨Ab,nb,cb,rfl,hb⟩
   have HB:=hid hb;clear hb
   have hfd:=fun x=>got_E Ab nb cb 0 x w1
   cases hx:hexB (bl s)
   ·have E2:Hid (sgB 3 s=false):=by show _=_;rw[E.out];exact hx
    simp only[Bool.false_eq_true,if_false]
    go_wp2_with fail
    go_ret
    exact⟨ret_bool (by rw[E2.out]),HB.out⟩
   ·have E2:Hid (sgB 3 s=true):=by show _=_;rw[E.out];exact hx
    simp only[if_true]
    go_wp2_with fail
    go_ret
    exact⟨ret_bool (by rw[E2.out]),HB.out⟩
  ·have hl1:((s.size:Int)==40)=false:=u8_bne hl
   have E:Hid (sgB 3 s=false):=by show _=_;rw[K.out,decide_eq_false hl];rfl
   clear hl
   go_enter Tryz.func107,Tryz.ntmps107
   go_wp2_with fail
   go_ret
   exact⟨ret_bool (by rw[E.out]),Below.refl _ _⟩
end
end Go.Proofs.YtdfdllbebfoggaaGreatDoor
