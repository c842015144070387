/- A part of the proof that ModelChecks holds. No condition. -/
import Derived.Test.YtdfdllbebfoggaaGreatDoorD05
import Derived.Test.YtdfdllbebfoggaaGreatDoorD09
import Derived.Test.YtdfdllbebfoggaaGreatDoorD13
set_option maxRecDepth 100000
set_option maxHeartbeats 20000000
set_option linter.unusedVariables false
set_option linter.unusedSimpArgs false
namespace Go.Proofs.YtdfdllbebfoggaaGreatDoor
section
open Go.RowKit
theorem ixB_stop (s:BA)(c:UInt8)(k:Nat)(h:k<s.size)(h0:((bl s).take k).contains c=false)(h1:s[k]=c):ixB s c=k:=by
 unfold ixB
 have key:∀ (l:LU)(k:Nat),(l.take k).contains c=false→l[k]?=some c→Lib.indexByte l c=k:=by
  intro l
  induction l with
  | nil=>intro k _ h;simp at h
  | cons b r ih=>
   intro k h0 h1
   cases k with
   | zero=>simp at h1;subst h1;simp[Lib.indexByte]
   | succ k=>
    simp at h1
    rw[List.take_succ_cons,List.contains_cons,Bool.or_eq_false_iff] at h0
    have hb:(b==c)=false:=by have:=h0.1;simp at this ⊢;exact fun e=>this e.symm
    have hr:=ih k h0.2 h1
    simp only[Lib.indexByte,hb,hr]
    rw[if_neg (by simp),if_neg (by simp;try omega)];omega
 exact key (bl s) k h0 (by rw[bl_get? s k h,h1])
theorem ixB_none (s:BA)(c:UInt8)(h:(bl s).contains c=false):ixB s c=-1:=by
 have h1:=ixB_neg s c h
 have h2:=Lib.indexByte_ge (bl s) c
 unfold ixB at *;omega
theorem ref01_Find (s:BA)(c:UInt8)(w:World)(hs:s.size≤9223372036854775807):
  Calls Tryz.prog 220 #[.string s,.int .u8 c.toNat] w fun e w'=>e=.returned (.int .i64 (ixB s c))∧w=w':=by
 go_enter Tryz.func220,Tryz.ntmps220
 go_wp2_with fail
 go_loop [5] (fun i=>∃ k:Nat,k≤s.size∧i=.int .i64 k∧Hid (((bl s).take k).contains c=false)) (fun i=>s.size-(intOf i).toNat)
 case atStart=>exact⟨0,z0,rfl,by simp[Hid]⟩
 case round=>
  obtain⟨k,hk,rfl,HA⟩:=hrel
  by_cases hlt:k<s.size
  ·by_cases hc:s[k]=c
   ·have hc1:((s[k].toNat:Int)==(c.toNat:Int))=true:=by rw[hc];simp
    have HC:=hid hc
    clear hc
    go_wp2_with fail
    go_ret
    exact⟨ret_int (ixB_stop s c k hlt HA.out HC.out).symm,rfl⟩
   ·have hc1:((s[k].toNat:Int)==(c.toNat:Int))=false:=by
     simp only[bF,ne_eq];intro h;apply hc;apply UInt8.toNat_inj.1;omega
    have HC:=hid hc
    clear hc
    go_wp2_with fail
    go_round
    case rel=>exact⟨k+1,by omega,by go_num,hid (contains_take_next s c k hlt HA.out (by simpa using HC.out))⟩
    case measure=>simp[intOf];omega
  ·go_wp2_with fail
   go_ret
   exact⟨ret_int (ixB_none s c (by have:=HA.out;rw[bl_take_ge s k (by omega)] at this;exact this)).symm,rfl⟩
theorem hex_ix_bd (c:UInt8)(h:hexL.contains c=true):0≤ixB hexS c∧ixB hexS c≤15:=by
 refine⟨ixB_pos hexS c h,?_⟩
 have hm:c∈hexL:=by simpa using h
 simp only[hexL,List.mem_cons,List.not_mem_nil,or_false] at hm
 rcases hm with rfl | rfl | rfl | rfl | rfl | rfl | rfl | rfl | rfl | rfl | rfl | rfl | rfl | rfl | rfl | rfl<;>decide
theorem hex_ix_neg (c:UInt8)(h:hexL.contains c=false):ixB hexS c<0:=ixB_neg hexS c h
theorem info_u8:(Tryz.prog.info? 5).map (fun i=>(i.zero,i.size,i.bytes))=some (some (.int .u8 0),1,1):=by kernel_rfl
theorem idx_int {T E:TypeId}{sz:Nat}(hT:Tryz.prog.underlying T=some (.slice (Tryz.prog.elem T)))(hE:Tryz.prog.elem T=E)(hs:∀ w,(sizeOf E).run Tryz.prog w=.ok sz w)
  {A:Option Addr}{n c k b off:Nat}{i:Int}(hi:i=k)(hA:A=some ⟨b,off,none⟩)(hk:k<n)(w:World):(Instr.indexAt T (.slice A n c) (.int .i64 i)).run Tryz.prog w=.ok (.pointer (some ⟨b,off+k*sz,none⟩)) w:=by
 subst hi;exact idx_of hT hE hs hA hk w
theorem reads_oneV (w:World)(t:TypeId)(x:Value):Reads (w.alloc (.cells #[x] t)) (w.heap.size+1) 1 (some ⟨w.heap.size,0,none⟩) 1 [x]:=by
 refine⟨rfl,fun _=>⟨_,rfl,by simp,fun j u hu=>?_⟩⟩
 cases j with
 | zero=>simp at hu;subst hu;simp[Addr.add]
 | succ j=>simp at hu
theorem reads_oneVd (w:World)(t:TypeId)(x:Value):Reads (w.alloc (.cells #[x] t)).drew (w.heap.size+1) 1 (some ⟨w.heap.size,0,none⟩) 1 [x]:=reads_oneV w t x
theorem Bx.grown {w w1 w2:World}{vs:List Value}{row:Option Nat}(h:Bx w w1 vs)(hg:w1.grownBy w2 row)(hr:∀ g,row=some g→w.heap.size<g):Bx w w2 vs:=by
 have hb:w2.heap[w.heap.size]?=w1.heap[w.heap.size]?:=hg.block _ h.sz (fun e=>by have:=hr _ e.symm;omega)
 exact⟨h.bel.grown hg h.bel.size (fun j hj=>by have:=hr j hj;omega),Nat.lt_of_lt_of_le h.sz hg.size,fun j u hu=>(World.cell?_of_block (a:=⟨w.heap.size,j,none⟩) hb).trans (h.cell j u hu),fun j hj=>(World.frozen?_of_block (a:=⟨w.heap.size,j,none⟩) hb).trans (h.free j hj)⟩
theorem Bx.alloc {w w1:World}{vs:List Value}(h:Bx w w1 vs)(o:Obj):Bx w (w1.alloc o) vs:=h.step (bR.alloc lr o)
def UnhexPost (l:LU)(w:World)(e:Ending)(w':World):Prop:=∃ (A:Option Addr)(n c:Nat),e=.returned (.agg #[.slice A n c,.int .i64 0,.int .i64 (if hexB l then 0 else 3)])∧Below w.heap.size w w'
theorem ref_Unhex (s:BA)(w:World)(hs:s.size≤100000)(hev:s.size % 2=0):
  Calls Tryz.prog 155 #[.string s] w (UnhexPost (bl s) w):=by
 obtain⟨i0,hi0,hz0,hz1,hz2⟩:=info_parts info_u8
 go_enter Tryz.func155,Tryz.ntmps155
 go_wp2_with fail
 go_loop [3] (fun i=>∃ k:Nat,k≤s.size∧i=.int .i64 k∧Hid (((bl s).take k).all (fun c=>hexL.contains c)=true)) (fun i=>s.size-(intOf i).toNat)
 case atStart=>exact⟨0,z0,rfl,by simp[Hid]⟩
 case round=>
  obtain⟨k,hk,rfl,HA⟩:=hrel
  by_cases hlt:k<s.size
  ·go_wp2_with fail
   refine(ref01_Find hexS s[k] _ (by decide)).mono ?_;rintro e w' ⟨rfl,rfl⟩
   cases hc:hexL.contains s[k]
   ·have hneg:=hex_ix_neg _ hc
    have HE:Hid (hexB (bl s)=false):=bl_all_false s k hlt hc
    clear hc
    go_wp2_with fail
    refine bodyPost_ret (v:=.agg #[.slice none 0 0,.int .i64 0,.int .i64 3]) (by simp[results,Tryz.results155,go_sem]) rfl ⟨_,_,_,by rw[HE.out];rfl,?_⟩
    exact bR.alloc lr _
   ·have hb:=hex_ix_bd _ hc
    have HC:=hid hc
    clear hc
    go_wp2_with fail
    go_round
    case rel=>exact⟨k+1,by omega,by go_num,hid (by rw[bl_take_all s k hlt,HA.out,HC.out];rfl)⟩
    case measure=>simp[intOf];omega
  ·have HALL:Hid ((bl s).all (fun c=>hexL.contains c)=true):=by have:=HA.out;rw[bl_take_ge s k (by omega)] at this;exact this
   have HE:Hid (hexB (bl s)=true):=HALL.out
   have hev1:(((s.size:Int) % 2)==1)=false:=by simp;omega
   go_wp2_with fail
   go_loopw [4,5] (fun o i wr=>∃ (j n:Nat) (xs:List Value),j≤s.size∧n≤s.size∧i=.int .i64 j∧Hid (j=2*n)∧Hid (wr.ownsRow (w.heap.size+1) 5 1 o n xs)∧Hid (Bx w wr [.slice none 0 0,.int .i64 0,.int .i64 0])) (fun _ i _=>s.size-(intOf i).toNat)
   case atStart=>exact⟨0,0,[],by omega,by omega,rfl,rfl,World.ownsRow_nil _ _ _ _,Bx.start w [.slice none 0 0,.int .i64 0,.int .i64 0] _⟩
   case round=>
    obtain⟨j,n,xs,hj,hn,rfl,HJ,HO,HX⟩:=hrel
    obtain⟨Ao,co,rfl⟩:=owns_form HO.out
    by_cases hlt2:j<s.size
    ·have hlt3:j+1<s.size:=by have:=HJ.out;omega
     have hn2:n+1≤s.size:=by have:=HJ.out;omega
     have i2:(j:Int)+1<(s.size:Int):=by omega
     have i3:(0:Int)≤(j:Int)+1:=by omega
     have i4:IntKind.i64.wrap ((j:Int)+1)=(j:Int)+1:=IntWalk.i64_in _ (by omega)
     have i5:((j:Int)+1).toNat=j+1:=by omega
     have hsz:=HX.out.sz
     go_wp2_with fail
     go_region_law (first
      | (refine step_append_any _ (by rfl) _ _ _ (by rfl) (w.heap.size+1) 5 i0 _ 1 1 Tryz.underlying189 hi0 hz0 hz1 hz2 rfl (by omega) (.slice Ao n co) n xs (by rfl) ((HO.out.alloc _).drew) (wr.heap.size+1) (some ⟨wr.heap.size,0,none⟩) 1 1 _ (by rfl) (reads_oneVd wr _ _) (by simp[Value.oneCell']) (by simp only[maxLen];omega) (by omega) (by simp;omega) ?_
         intro v1 w2 o2 g2 a2)
      | (go_simp;go_at_call 220;refine(ref01_Find hexS _ _ (by decide)).mono ?_;rintro e w' ⟨rfl,rfl⟩))
     all_goals
      clear i4
      obtain⟨ys,O2⟩:∃ ys,Hid (w2.ownsRow (w.heap.size+1) 5 1 v1 (n+1) ys):=⟨_,hid o2⟩
      have X2:Hid (Bx w w2 [.slice none 0 0,.int .i64 0,.int .i64 0]):=((HX.out.alloc _).drewN 1).grown g2 (fun g hg=>(HO.out.lt g hg).1)
      clear o2 g2 a2
      go_wp2_with fail
      go_roundw
      case rel=>exact⟨j+2,n+1,_,by omega,by omega,by go_num,hid (by have:=HJ.out;omega),O2,X2⟩
      case measure=>simp[intOf];omega
    ·have c0:=HX.out.cell 0 _ rfl
     have c1:=HX.out.cell 1 _ rfl
     have c2:=HX.out.cell 2 _ rfl
     have f0:=HX.out.free 0 (by simp)
     have f1:=HX.out.free 1 (by simp)
     have f2:=HX.out.free 2 (by simp)
     go_wp2_with fail
     refine bodyPost_ret (v:=.agg #[.slice Ao n co,.int .i64 0,.int .i64 0]) (by simp[results,Tryz.results155,go_sem,c0,c1,c2]) rfl ⟨_,_,_,by rw[HE.out];rfl,?_⟩
     exact((HX.out.bel.setCell lr _).setCell lr _).setCell lr _
def PartPost (r:Option (LU×LU×LU))(w:World)(e:Ending)(w':World):Prop:=
 ∃ (ep pr rv:BA) (ok:Bool),e=.returned (.agg #[.string ep,.string pr,.string rv,.bool ok])∧(match r with | some (a,b,d)=>ok=true∧bl ep=a∧bl pr=b∧bl rv=d | none=>ok=false)∧Below w.heap.size w w'
theorem cut_of {c:UInt8}:∀ (l:LU)(k:Nat),(l.take k).contains c=false→l[k]?=some c→Lib.cut l [c]=(l.take k,l.drop (k+1),true):=by
 intro l k h0 h1
 have hk:k<l.length:=(gS h1).1
 have hi:Lib.indexByte l c=k:=by
  have key:∀ (l:LU)(k:Nat),(l.take k).contains c=false→l[k]?=some c→Lib.indexByte l c=k:=by
   intro l
   induction l with
   | nil=>intro k _ h;simp at h
   | cons b r ih=>
    intro k h0 h1
    cases k with
    | zero=>simp at h1;subst h1;simp[Lib.indexByte]
    | succ k=>
     simp at h1
     rw[List.take_succ_cons,List.contains_cons,Bool.or_eq_false_iff] at h0
     have hb:(b==c)=false:=by have:=h0.1;simp at this ⊢;exact fun e=>this e.symm
     have hr:=ih k h0.2 h1
     simp only[Lib.indexByte,hb,hr]
     rw[if_neg (by simp),if_neg (by simp;try omega)];omega
  exact key l k h0 h1
 unfold Lib.cut
 rw[Lib.index_one,hi]
 simp
theorem cut_none {c:UInt8}(l:LU)(h:l.contains c=false):Lib.cut l [c]=(l,[],false):=by
 have hi:Lib.indexByte l c=-1:=by
  have h1:=ixB_none ⟨l.toArray⟩ c (by simpa [bl] using h)
  simpa [ixB,bl] using h1
 unfold Lib.cut
 rw[Lib.index_one,hi]
 simp
end
section
open Go.RowKit Go.Deep
theorem bthen' {B:Nat}{w w1 w2:World}(h1:Below B w w1)(h2:Below w1.heap.size w1 w2)(h:B≤w1.heap.size:=by exact Nat.le_trans (by assumption) (Below.size (by assumption))):Below B w w2:=h1.trans (h2.mono h)
theorem get_bang (s:BA)(j:Nat)(b:UInt8)(h:(bl s)[j]?=some b):s.get! j=b:=by
 unfold bl at h
 show s.data[j]! = b
 have h2:s.data[j]?=some b:=by simpa using h
 obtain⟨hlt,he⟩:=Array.getElem?_eq_some_iff.1 h2
 rw[getElem!_pos s.data j hlt,he]
theorem decode_far (s:BA)(i:Nat)(h:i<s.size)(ha:¬ (s[i]'h).toNat<128):
  (128≤(Utf8.decode s i).1∧(Utf8.decode s i).1≤1114111)∧(1≤(Utf8.decode s i).2∧i+(Utf8.decode s i).2≤s.size)∧∀ (j:Nat)(b:UInt8),i≤j→j<i+(Utf8.decode s i).2→(bl s)[j]?=some b→128≤b.toNat:=by
 have e0:=get_bang s i _ (bl_get? s i h)
 rw[Lib.decode_at,e0]
 have l1:=(s.get! (i+1)).toNat_lt
 have l2:=(s.get! (i+2)).toNat_lt
 have l3:=(s.get! (i+3)).toNat_lt
 have l0:=(s[i]'h).toNat_lt
 have g1:∀ b,(bl s)[i+1]?=some b→b.toNat=(s.get! (i+1)).toNat:=fun b hb=>by rw[get_bang s _ b hb]
 have g2:∀ b,(bl s)[i+2]?=some b→b.toNat=(s.get! (i+2)).toNat:=fun b hb=>by rw[get_bang s _ b hb]
 have g3:∀ b,(bl s)[i+3]?=some b→b.toNat=(s.get! (i+3)).toNat:=fun b hb=>by rw[get_bang s _ b hb]
 have g0:∀ b,(bl s)[i]?=some b→b.toNat=(s[i]'h).toNat:=fun b hb=>by rw[bl_get? s i h] at hb;injection hb with hb;rw[hb]
 generalize (s.get! (i+1)).toNat=b1 at *
 generalize (s.get! (i+2)).toNat=b2 at *
 generalize (s.get! (i+3)).toNat=b3 at *
 generalize (s[i]'h).toNat=b0 at *
 unfold Lib.decodeN
 rw[if_neg ha]
 have key:∀ (r w:Nat),1≤w→w≤4→(1<w→128≤b1)→(2<w→128≤b2)→(3<w→128≤b3)→∀ (j:Nat)(b:UInt8),i≤j→j<i+w→(bl s)[j]?=some b→128≤b.toNat:=by
  intro r w h1 h4 k1 k2 k3 j b hj hjw hb
  obtain hj | hj | hj | hj:j=i∨j=i+1∨j=i+2∨j=i+3:=by omega
  ·subst hj;rw[g0 b hb];omega
  ·subst hj;rw[g1 b hb];exact k1 (by omega)
  ·subst hj;rw[g2 b hb];exact k2 (by omega)
  ·subst hj;rw[g3 b hb];exact k3 (by omega)
 repeat' split
 all_goals (refine⟨by simp only;omega,by simp only;omega,key 0 _ ?_ ?_ ?_ ?_ ?_⟩<;>(simp only;omega))
theorem encode_far (r:Int)(h0:128≤r)(h1:r≤1114111):2≤(Utf8.encode r).size∧(Utf8.encode r).size≤4∧∃ c:UInt8,(bl (Utf8.encode r))[(Utf8.encode r).size-1]?=some c∧128≤c.toNat:=by
 unfold Utf8.encode
 have hc:128≤(if Utf8.valid r then r.toNat else Utf8.runeError):=by
  split
  ·omega
  ·simp[Utf8.runeError]
 generalize (if Utf8.valid r then r.toNat else Utf8.runeError)=c at hc
 simp only
 rw[if_neg (by omega)]
 have k:(UInt8.ofNat (128+c % 64)).toNat=128+c % 64:=by simp[UInt8.toNat_ofNat'];omega
 repeat' split
 all_goals exact⟨by simp[ByteArray.size],by simp[ByteArray.size],_,rfl,by rw[k];omega⟩
def sgs:BA:=⟨#[60,61,62,126]⟩
theorem sgs_size:sgs.size=4:=rfl
theorem sgs_low (j:Nat)(b:UInt8)(h:(bl sgs)[j]?=some b):b.toNat<128:=by
 have hm:=gM h
 simp[sgs,bl] at hm
 rcases hm with rfl | rfl | rfl | rfl<;>decide
theorem IndexRune_err (w:World):Calls Tryz.prog 237 #[.string sgs,.int .i32 65533] w fun e w'=>e=.returned (.int .i64 (-1))∧Below w.heap.size w w':=by
 go_enter Tryz.func237,Tryz.ntmps237
 go_wp2_with fail
 go_loopg [5,6] 4 (fun g _ _ wx=>∃ i:Nat,i+g=4∧wx=w.iter sgs i)
 case atStart=>exact⟨0,by omega,rfl⟩
 case round=>
  obtain⟨i,hig,rfl⟩:=hrel
  cases gk with
  | zero=>
   obtain rfl:i=4:=by omega
   have hnx:=fun ty=>run_next_end (P:=Tryz.prog) w sgs 4 ty (by rw[sgs_size];omega)
   go_wp2_with fail
   go_ret
   exact⟨rfl,bR.alloc lr _⟩
  | succ g=>
   have hi:i<sgs.size:=by rw[sgs_size];omega
   obtain⟨x,hx⟩:∃ x:UInt8,sgs[i]'hi=x:=⟨_,rfl⟩
   have hx128:x.toNat<128:=sgs_low i x (by rw[←hx];exact bl_get? sgs i hi)
   have hnx:=fun ty=>run_next_ascii (P:=Tryz.prog) w sgs i ty hi (by rw[hx];exact hx128)
   rw[hx] at hnx
   clear hx
   have hx3:((x.toNat:Int)==65533)=false:=beq_eq_false_iff_ne.2 (by omega)
   go_wp2_with fail
   go_roundg g
   case measure=>omega
   case rel=>exact⟨i+1,by omega,rfl⟩
theorem IndexRune_bad (r:Int)(w:World)(h0:128≤r)(h1:r≤1114111)(hne:r≠65533)(hv:Lib.validRune r=false):Calls Tryz.prog 237 #[.string sgs,.int .i32 r] w fun e w'=>e=.returned (.int .i64 (-1))∧Below w.heap.size w w':=by
 have hx3:(r==65533)=false:=beq_eq_false_iff_ne.2 hne
 go_enter Tryz.func237,Tryz.ntmps237
 go_wp2_with (go_at_call 271;refine(Tryz.utf8_ValidRune _ _).mono ?_;rintro e w' ⟨rfl,hw⟩;rw[hw,hv])
 go_ret
 exact⟨rfl,bR⟩
theorem IndexRune_rest (r:Int)(w:World)(h0:128≤r)(h1:r≤1114111)(hne:r≠65533)(hv:Lib.validRune r=true):Calls Tryz.prog 237 #[.string sgs,.int .i32 r] w fun e w'=>e=.returned (.int .i64 (-1))∧Below w.heap.size w w':=by
 have hx3:(r==65533)=false:=beq_eq_false_iff_ne.2 hne
 obtain⟨z0,z1,c,hc,c0⟩:=encode_far r h0 h1
 obtain⟨rs,hrs⟩:∃ rs,Utf8.encode r=rs:=⟨_,rfl⟩
 rw[hrs] at z0 z1 hc
 obtain⟨m,hm⟩:∃ m,rs.size=m+1:=⟨rs.size-1,by omega⟩
 have hlt:m<rs.size:=by omega
 have hc2:rs[m]'hlt=c:=by
  rw[show rs.size-1=m by omega,bl_get? rs _ hlt] at hc;injection hc
 have hss:=sgs_size
 have hlt2:m<sgs.size:=by omega
 obtain⟨x,hx⟩:∃ x:UInt8,sgs[m]'hlt2=x:=⟨_,rfl⟩
 have hx128:x.toNat<128:=sgs_low _ x (by rw[←hx];exact bl_get? sgs _ hlt2)
 have hxc:((x.toNat:Int) != (c.toNat:Int))=true:=by simp;omega
 have hm4:(m:Int)<(sgs.size:Int):=by omega
 have hm5:(m:Int)+1≤(sgs.size:Int):=by omega
 have hm6:m+1≤sgs.size:=by omega
 clear hss
 have hI:∀ W:World,Calls Tryz.prog 82 #[.string (sgs.extract (m+1) sgs.size),.int .u8 c.toNat] W fun e w'=>e=.returned (.int .i64 (-1))∧w'=W:=by
  intro W
  refine(IndexByte_any _ c W).mono ?_
  rintro e w' ⟨rfl,rfl⟩
  refine⟨ret_int ?_,rfl⟩
  show Lib.indexByte (bl (sgs.extract (m+1) sgs.size)) c=-1
  have hno:(bl (sgs.extract (m+1) sgs.size)).contains c=false:=by
   rw[bl_drop]
   cases hcc:((bl sgs).drop (m+1)).contains c with
   | false=>rfl
   | true=>
    have hmm:c∈(bl sgs).drop (m+1):=by simpa using hcc
    obtain⟨j,hj⟩:=List.getElem?_of_mem (List.mem_of_mem_drop hmm)
    have:=sgs_low j c hj;omega
  exact ixB_none _ _ hno
 have iw:IntKind.i64.wrap ((m:Int)+1)=(m:Int)+1:=IntWalk.i64_in _ (by omega)
 have hsl:∀ W:World,(Instr.slice 9 (.string sgs) (some (.int .i64 ((m:Int)+1))) none none).run Tryz.prog W=.ok (.string (sgs.extract (m+1) sgs.size)) W:=fun W=>run_slice_string_l W 9 sgs Tryz.underlying9 .i64 ((m:Int)+1) (by omega) hm5
 have hid1:∀ W:World,(Instr.index 9 (.string rs) (.int .i64 (m:Int))).run Tryz.prog W=.ok (.int .u8 c.toNat) W:=fun W=>by
  rw[run_index_string W 9 rs .i64 (m:Int) Tryz.underlying9,dif_pos ⟨by omega,by omega⟩]
  simp[hc2]
 have hid2:∀ W:World,(Instr.index 9 (.string sgs) (.int .i64 (m:Int))).run Tryz.prog W=.ok (.int .u8 x.toNat) W:=fun W=>by
  rw[run_index_string W 9 sgs .i64 (m:Int) Tryz.underlying9,dif_pos ⟨by omega,by omega⟩]
  simp[hx]
 clear hc
 go_enter Tryz.func237,Tryz.ntmps237
 go_wp2_with (go_at_call 271;refine(Tryz.utf8_ValidRune _ _).mono ?_;rintro e w' ⟨rfl,hw⟩;rw[hw,hv])
 go_step3
 go_wp2_with fail
 refine wp_loop_rounds 1 ?_
 rw[rounds_succ]
 go_wp2_with fail
 go_step3
 go_wp2_with fail
 go_quiet (fail)
 go_wp2_with fail
 have HB:=fun n=>below_drewN (Below.refl w.heap.size w) n
 generalize hW:w.drewN _=W2
 have HW:Below w.heap.size w W2:=by rw[←hW];exact HB _
 clear hW HB
 go_quiet ((go_at_call 82;exact Calls.quiet_of_same (hI _)))
 go_wp2_with fail
 rw[Exit.noGoto_ret]
 go_wp2_with fail
 rw[Exit.noGoto_ret]
 go_ret
 exact⟨rfl,below_drewN HW _⟩
theorem IndexRune_far (r:Int)(w:World)(h0:128≤r)(h1:r≤1114111):Calls Tryz.prog 237 #[.string sgs,.int .i32 r] w fun e w'=>e=.returned (.int .i64 (-1))∧Below w.heap.size w w':=by
 by_cases hne:r=65533
 ·subst hne;exact IndexRune_err w
 ·cases hv:Lib.validRune r with
  | false=>exact IndexRune_bad r w h0 h1 hne hv
  | true=>exact IndexRune_rest r w h0 h1 hne hv
theorem IndexAny_short (s:BA)(w:World)(h8:s.size≤8):
  Calls Tryz.prog 187 #[.string s,.string sgs] w fun e w'=>e=.returned (.int .i64 (Lib.indexAny (bl s) (bl sgs)))∧Below w.heap.size w w':=by
 have hemp:sgs.toList.isEmpty=false:=by rw[bl_toList];rfl
 have hemp2:¬ sgs.toList=[]:=by rw[bl_toList];intro h;exact absurd (congrArg List.length h) (by decide)
 have hn1:((sgs.size:Int)==1)=false:=rfl
 have h8z:decide ((8:Int)<(s.size:Int))=false:=dF (by omega)
 go_enter Tryz.func187,Tryz.ntmps187
 go_wp2_with (go_at_call 238;refine(Tryz.strings_shouldUseASCIISet _ _).mono ?_;rintro e w' ⟨rfl,hw⟩;rw[hw,h8z])
 go_loopg [9,10] s.size (fun g _ _ wx=>∃ i:Nat,i+g=s.size∧Hid (wx.heap[w.heap.size]?=some (.stringIter s i))∧Hid (Below w.heap.size w wx)∧Hid (Lib.NoAny (bl s) (bl sgs) i))
 case atStart=>exact⟨0,by omega,World.iter_heap w s 0,bR.alloc lr _,Lib.NoAny.zero _ _⟩
 case round=>
  obtain⟨i,hig,HH,HB,HN⟩:=hrel
  cases gk with
  | zero=>
   obtain rfl:i=s.size:=by omega
   have hnx:=fun ty=>Lib.run_next_end_at (P:=Tryz.prog) wr w.heap.size s s.size ty HH.out (by omega)
   go_wp2_with fail
   go_ret
   exact⟨ret_int (by rw[Lib.indexAny_none (by rw[bl_length];exact HN.out)]),HB.out⟩
  | succ g=>
   have hi:i<s.size:=by omega
   have hxl:=bl_get? s i hi
   by_cases ha:(s[i]'hi).toNat<128
   ·have hnx:=fun ty=>Lib.run_next_ascii_at (P:=Tryz.prog) wr w.heap.size s i ty HH.out hi ha
    obtain⟨x,hx⟩:∃ x:UInt8,s[i]'hi=x:=⟨_,rfl⟩
    rw[hx] at hnx ha hxl
    have HX:=hid hxl
    clear hxl hx
    have hback:((x.toNat:Int)).toNat.toUInt8=x:=by simp
    have HB2:Hid (Below w.heap.size w (wr.iterAt w.heap.size s (i+1))):=Lib.below_iterAt HB.out lr _ _
    have HH2:Hid ((wr.iterAt w.heap.size s (i+1)).heap[w.heap.size]?=some (.stringIter s (i+1))):=Lib.iterAt_heap _ _ _ _ _ HH.out
    cases hin:(bl sgs).contains x with
    | false=>
     have hlt:=ixB_neg sgs x hin
     unfold ixB bl at hlt
     have HI:=hid hin;clear hin
     go_wp2_with (go_at_call 237;refine(Tryz.strings_IndexRune_ascii _ _ _ (by omega) (by omega)).mono ?_;rintro e w' ⟨rfl,hw⟩;rw[hw,hback])
     go_roundg g
     case measure=>omega
     case rel=>exact⟨i+1,by omega,HH2,HB2,HN.out.succ HX.out HI.out⟩
    | true=>
     have hge:=ixB_pos sgs x hin
     unfold ixB bl at hge
     have HI:=hid hin;clear hin
     go_wp2_with (go_at_call 237;refine(Tryz.strings_IndexRune_ascii _ _ _ (by omega) (by omega)).mono ?_;rintro e w' ⟨rfl,hw⟩;rw[hw,hback])
     go_ret
     exact⟨ret_int (Lib.indexAny_hit HN.out HX.out HI.out).symm,HB2.out⟩
   ·obtain⟨⟨d1,d2⟩,⟨d3,d4⟩,d5⟩:=decode_far s i hi ha
    have hnx:=fun ty=>Lib.run_next_any_at (P:=Tryz.prog) wr w.heap.size s i ty HH.out hi
    have HD:=hid d5
    clear d5 hxl
    generalize Utf8.decode s i=D at *
    obtain⟨r,n⟩:=D
    simp only at d1 d2 d3 d4 hnx
    have HB2:Hid (Below w.heap.size w (wr.iterAt w.heap.size s (i+n))):=Lib.below_iterAt HB.out lr _ _
    have HH2:Hid ((wr.iterAt w.heap.size s (i+n)).heap[w.heap.size]?=some (.stringIter s (i+n))):=Lib.iterAt_heap _ _ _ _ _ HH.out
    have HN2:Hid (Lib.NoAny (bl s) (bl sgs) (i+n)):=by
     intro j b hj hb
     by_cases hji:j<i
     ·exact HN.out j b hji hb
     ·have h1:=HD.out j b (by omega) hj hb
      cases hc:(bl sgs).contains b with
      | false=>rfl
      | true=>
       have hm:b∈bl sgs:=by simpa using hc
       obtain⟨k,hk⟩:=List.getElem?_of_mem hm
       have:=sgs_low k b hk
       omega
    clear HD
    go_wp2_with fail
    refine(IndexRune_far (r:Int) _ (by omega) (by omega)).mono ?_;rintro e w' ⟨rfl,hb⟩
    have HS:w.heap.size<(wr.iterAt w.heap.size s (i+n)).heap.size:=(Array.getElem?_eq_some_iff.1 HH2.out).1
    have HB3:Hid (Below w.heap.size w w'):=bthen' HB2.out hb HB2.out.size
    have HH3:Hid (w'.heap[w.heap.size]?=some (.stringIter s (i+n))):=(hb.block _ HS).trans HH2.out
    clear hb
    go_wp2_with fail
    go_roundg (g+1-n)
    case measure=>omega
    case rel=>exact⟨i+n,by omega,HH3,HB3,HN2⟩
theorem IndexAny_rel (s:BA)(w:World)(hs:s.size≤4294967280):
  Calls Tryz.prog 187 #[.string s,.string sgs] w fun e w'=>e=.returned (.int .i64 (Lib.indexAny (bl s) (bl sgs)))∧Below w.heap.size w w':=by
 by_cases h8:s.size≤8
 ·exact IndexAny_short s w h8
 ·refine(Tryz.strings_IndexAny_long (by intro w;kernel_rfl) s sgs w (by decide) (by omega) (by omega) (by decide) (fun j b h=>sgs_low j b h)).mono ?_
  rintro e w' ⟨rfl,rfl⟩
  refine⟨rfl,?_⟩
  have h1:Below w.heap.size w (w.alloc (.cells (Lib.setCells sgs.data.toList) 232)):=bR.alloc lr _
  exact h1.alloc (by simp) _
end
section
open Go.RowKit
theorem got_E (A:Option Addr)(n c:Nat)(x y:Int)(w:World):(Instr.field 191 (.agg #[.slice A n c,.int .i64 x,.int .i64 y]) 2).run Tryz.prog w=.ok (.int .i64 y) w:=by kernel_rfl
theorem ref_Sum (fmt:Int)(hf:fmt=1∨fmt=2∨fmt=3)(s:BA)(w:World)(hs:s.size≤9223372036854775807):
  Calls Tryz.prog 107 #[.int .i64 fmt,.string s] w fun e w'=>e=.returned (.bool (sgB fmt s))∧Below w.heap.size w w':=by
 have key:∀ n:Nat,sumLen fmt=n→sgB fmt s=(decide (s.size=n)&&hexB (bl s)):=fun n hn=>by unfold sgB;rw[hn]
 rcases hf with rfl | rfl | rfl
 ·have K:=hid (key 32 (by decide))
  clear key
  by_cases hl:s.size=32
  ·have hl1:((s.size:Int)==32)=true:=u8_beq hl
   have hev:s.size % 2=0:=by omega
   have E:Hid (sgB 1 s=hexB (bl s)):=by show _=_;rw[K.out,dT hl];rfl
   have hsz:s.size≤100000:=by omega
   clear hl
   go_enter Tryz.func107,Tryz.ntmps107
   go_wp2_with fail
   refine(ref_Unhex s _ hsz hev).mono ?_;rintro e w1 ⟨Ab,nb,cb,rfl,hb⟩
   have HB:=hid hb;clear hb
   have hfd:=fun x=>got_E Ab nb cb 0 x w1
   cases hx:hexB (bl s)
   ·have E2:Hid (sgB 1 s=false):=by show _=_;rw[E.out];exact hx
    simp only[Bool.false_eq_true,if_false]
    go_wp2_with fail
    go_ret
    exact⟨ret_bool (by rw[E2.out]),HB.out⟩
   ·have E2:Hid (sgB 1 s=true):=by show _=_;rw[E.out];exact hx
    simp only[if_true]
    go_wp2_with fail
    go_ret
    exact⟨ret_bool (by rw[E2.out]),HB.out⟩
  ·have hl1:((s.size:Int)==32)=false:=u8_bne hl
   have E:Hid (sgB 1 s=false):=by show _=_;rw[K.out,dF hl];rfl
   clear hl
   go_enter Tryz.func107,Tryz.ntmps107
   go_wp2_with fail
   go_ret
   exact⟨ret_bool (by rw[E.out]),bR⟩
 ·have K:=hid (key 64 (by decide))
  clear key
  by_cases hl:s.size=64
  ·have hl1:((s.size:Int)==64)=true:=u8_beq hl
   have hev:s.size % 2=0:=by omega
   have E:Hid (sgB 2 s=hexB (bl s)):=by show _=_;rw[K.out,dT hl];rfl
   have hsz:s.size≤100000:=by omega
   clear hl
   go_enter Tryz.func107,Tryz.ntmps107
   go_wp2_with fail
   refine(ref_Unhex s _ hsz hev).mono ?_;rintro e w1 ⟨Ab,nb,cb,rfl,hb⟩
   have HB:=hid hb;clear hb
   have hfd:=fun x=>got_E Ab nb cb 0 x w1
   cases hx:hexB (bl s)
   ·have E2:Hid (sgB 2 s=false):=by show _=_;rw[E.out];exact hx
    simp only[Bool.false_eq_true,if_false]
    go_wp2_with fail
    go_ret
    exact⟨ret_bool (by rw[E2.out]),HB.out⟩
   ·have E2:Hid (sgB 2 s=true):=by show _=_;rw[E.out];exact hx
    simp only[if_true]
    go_wp2_with fail
    go_ret
    exact⟨ret_bool (by rw[E2.out]),HB.out⟩
  ·have hl1:((s.size:Int)==64)=false:=u8_bne hl
   have E:Hid (sgB 2 s=false):=by show _=_;rw[K.out,dF hl];rfl
   clear hl
   go_enter Tryz.func107,Tryz.ntmps107
   go_wp2_with fail
   go_ret
   exact⟨ret_bool (by rw[E.out]),bR⟩
 ·have K:=hid (key 40 (by decide))
  clear key
  by_cases hl:s.size=40
  ·have hl1:((s.size:Int)==40)=true:=u8_beq hl
   have hev:s.size % 2=0:=by omega
   have E:Hid (sgB 3 s=hexB (bl s)):=by show _=_;rw[K.out,dT hl];rfl
   have hsz:s.size≤100000:=by omega
   clear hl
   go_enter Tryz.func107,Tryz.ntmps107
   go_wp2_with fail
   refine(ref_Unhex s _ hsz hev).mono ?_;rintro e w1 ⟨Ab,nb,cb,rfl,hb⟩
   have HB:=hid hb;clear hb
   have hfd:=fun x=>got_E Ab nb cb 0 x w1
   cases hx:hexB (bl s)
   ·have E2:Hid (sgB 3 s=false):=by show _=_;rw[E.out];exact hx
    simp only[Bool.false_eq_true,if_false]
    go_wp2_with fail
    go_ret
    exact⟨ret_bool (by rw[E2.out]),HB.out⟩
   ·have E2:Hid (sgB 3 s=true):=by show _=_;rw[E.out];exact hx
    simp only[if_true]
    go_wp2_with fail
    go_ret
    exact⟨ret_bool (by rw[E2.out]),HB.out⟩
  ·have hl1:((s.size:Int)==40)=false:=u8_bne hl
   have E:Hid (sgB 3 s=false):=by show _=_;rw[K.out,dF hl];rfl
   clear hl
   go_enter Tryz.func107,Tryz.ntmps107
   go_wp2_with fail
   go_ret
   exact⟨ret_bool (by rw[E.out]),bR⟩
end
end Go.Proofs.YtdfdllbebfoggaaGreatDoor
