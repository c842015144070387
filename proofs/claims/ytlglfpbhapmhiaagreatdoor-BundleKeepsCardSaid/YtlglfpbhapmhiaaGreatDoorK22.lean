/- A part of the proof. -/
import Derived.Test.YtlglfpbhapmhiaaGreatDoorK12
import Derived.Test.YtlglfpbhapmhiaaGreatDoorK21
set_option maxRecDepth 100000
set_option maxHeartbeats 20000000
set_option linter.unusedVariables false
set_option linter.unusedSimpArgs false
namespace Go.Proofs.YtlglfpbhapmhiaaGreatDoor
section
open Go.RowKit Go.Deep
theorem DS:(Tryz.prog.info? 226).map (fun i=>(i.zero,i.size,i.bytes))=some (some (.agg #[.bool false,.string ⟨#[]⟩,.int .i64 0,.string ⟨#[]⟩]),4,48):=by kernel_rfl
structure tX (w wr:World) (L:List fH) (A:OA) (n c:Nat):Prop where
 len:L.length=n
 row:wr.ownsRow (w.heap.size+1) 226 4 (.slice A n c) n (L.flatMap fH.cells)
 ret:av wr w.heap.size [.string ⟨#[]⟩,.int .i64 0,.int .i64 0]
 bel:Below w.heap.size w wr
theorem tX.below {w wr w':World}{L:List fH}{A:OA}{n c:Nat}(h:tX w wr L A n c)(hb:Below wr.heap.size wr w'):tX w w' L A n c:=
 ⟨h.len,aD h.row hb,h.ret.below hb,ap h.bel hb⟩
theorem tX.start (w:World):tX w (w.alloc (.cells #[.string ⟨#[]⟩,.int .i64 0,.int .i64 0] 163)) [] none 0 0:=
 ⟨rfl,World.ownsRow_nil _ _ _ _,av.new w _ _,bR.alloc lr _⟩
theorem tX.grow {w wr w2:World}{L:List fH}{A A1:OA}{n c c1:Nat}{o1 o2:Obj}{x:fH}(h:tX w wr L A n c)
  (hr:w2.ownsRow (w.heap.size+1) 226 4 (.slice A1 (n+1) c1) (n+1) (L.flatMap fH.cells++x.cells))
  (hg:((wr.alloc o1).alloc o2).grownBy w2 (Value.slice A n c).ownBlock):tX w w2 (L++[x]) A1 (n+1) c1:=by
 have hb:=h.bel.size
 have hB:Below w.heap.size w ((wr.alloc o1).alloc o2):=(h.bel.alloc h.bel.size o1).alloc (by simp;omega) o2
 have hR:av ((wr.alloc o1).alloc o2) w.heap.size [.string ⟨#[]⟩,.int .i64 0,.int .i64 0]:=(h.ret.alloc o1).alloc o2
 refine⟨by simp[h.len],by rw[List.flatMap_append];simpa using hr,?_,?_⟩
 ·have hk:w2.heap[w.heap.size]?=((wr.alloc o1).alloc o2).heap[w.heap.size]?:=hg.block _ hR.sz (by intro e;have:=(h.row.lt _ e.symm).1;omega)
  refine⟨Nat.lt_of_lt_of_le hR.sz hg.size,fun j u hu=>?_,fun j hj=>?_⟩
  ·exact(World.cell?_of_block (a:=⟨w.heap.size,j,none⟩) hk).trans (hR.cell j u hu)
  ·exact(World.frozen?_of_block (a:=⟨w.heap.size,j,none⟩) hk).trans (hR.free j hj)
 ·exact hB.grown hg hB.size (fun j hj=>by have:=(h.row.lt j hj).1;omega)
def Ax (r:Option (List fH))(w:World)(e:Ending)(w':World):Prop:=
 ∃ (A:OA) (n c:Nat) (f:BA) (a code:Int),e=.returned (.tuple #[.slice A n c,ed f a code])∧Below w.heap.size w w' ∧
  (match r with
   | some L=>code=0∧n=L.length∧w'.ownsRow w.heap.size 226 4 (.slice A n c) n (L.flatMap fH.cells)
   | none=>code≠0∧A=none∧n=0)
theorem Ay (w:World)(t:TypeId)(a b c d:Value):ji (w.alloc (.cells #[a,b,c,d] t)) (w.heap.size+1) 4 (some ⟨w.heap.size,0,none⟩) 1 [a,b,c,d]:=by
 refine⟨rfl,fun _=>⟨_,rfl,by simp,fun j u hu=>?_⟩⟩
 match j,hu with
 | 0,hu=>simp at hu;subst hu;simp[Addr.add]
 | 1,hu=>simp at hu;subst hu;simp[Addr.add]
 | 2,hu=>simp at hu;subst hu;simp[Addr.add]
 | 3,hu=>simp at hu;subst hu;simp[Addr.add]
 | j+4,hu=>simp at hu
theorem JE (l:LU):(Lib.cut l [32]).1=l.take (aA dh l):=by
 by_cases h:aA dh l<l.length
 ·obtain⟨a,r,hd,ha⟩:=lE l h
  have ha:a=32:=by simpa [dh] using ha
  subst ha
  have h1:l[aA dh l]?=some 32:=by
   have:=congrArg (fun x=>x[0]?) hd
   simpa [List.getElem?_drop] using this
  have h0:(l.take (aA dh l)).contains 32=false:=by
   cases hc:(l.take (aA dh l)).contains 32 with
   | false=>rfl
   | true=>
    have hm:(32:UInt8)∈l.take (aA dh l):=by simpa using hc
    have:l.take (aA dh l)=l.takeWhile dh:=by unfold aA;exact(List.prefix_iff_eq_take.1 (List.takeWhile_prefix _)).symm
    rw[this] at hm
    have:=List.all_eq_true.1 (List.all_takeWhile (p:=dh) (l:=l)) 32 hm
    simp[dh] at this
  rw[Ll l _ h0 h1]
 ·have hl:=eZ dh l
  have he:aA dh l=l.length:=by omega
  have hc:l.contains 32=false:=by
   cases hc:l.contains 32 with
   | false=>rfl
   | true=>
    have hm:(32:UInt8)∈l:=by simpa using hc
    have:l.takeWhile dh=l:=by
     have:=List.prefix_iff_eq_take.1 (List.takeWhile_prefix (p:=dh) (l:=l))
     rw[this];exact tL (by unfold aA at he;omega)
    rw[←this] at hm
    have:=List.all_eq_true.1 (List.all_takeWhile (p:=dh) (l:=l)) 32 hm
    simp[dh] at this
  rw[GI l hc,he,List.take_length]
end
section
open Go.RowKit
theorem uQ {fmt:Int}{s:BA}(h:cJ fmt s=0):s.size≤64:=by
 unfold cJ at h
 split at h
 ·simp at h
 ·split at h
  ·simp at h
  ·omega
theorem DT {l:LU}(h:cR l=true):l.length≤64:=by
 rw[DE] at h;simp at h;omega
theorem fH.right.sizes {x:fH}(h:x.right):x.name.length≤64∧x.ver.length≤64:=by
 obtain⟨h1,h2,h3,h4⟩:=h
 refine⟨DT h1,?_⟩
 by_cases o0:x.op=0
 ·rw[h3 o0];simp
 ·have:=uQ (h4 (by omega));rw[bV] at this;exact this
theorem AA (x:fH)(hx:x.right)(w:World)(hG:Gl w):
  Calls Tryz.prog 220 #[.agg #[.string (bG x.name),.int .i64 x.op,.string (bG x.ver)]] w fun e w'=>e=.returned (.int .i64 0)∧Below w.heap.size w w':=by
 obtain⟨z1,z2⟩:=hx.sizes
 obtain⟨h1,h2,h3,h4⟩:=hx
 have HG:=ae hG;clear hG
 have hn:cR (bl (bG x.name))=true:=by rw[et];exact h1
 have s1:(bG x.name).size≤64:=by rw[bV];exact z1
 have s2:(bG x.ver).size≤64:=by rw[bV];exact z2
 have hN:=fun W=>oF (bG x.name) W (by omega)
 rw[hn] at hN
 clear hn h1 z1 z2
 generalize bG x.name=N at *
 by_cases o0:x.op=0
 ·have hv:bG x.ver=⟨#[]⟩:=by rw[h3 o0];rfl
  rw[hv,o0]
  clear h2 h3 h4 s2 hv o0
  go_enter Tryz.func220,Tryz.ntmps220
  go_wp2_with fail
  refine(hN _).mono ?_;rintro e w' ⟨rfl,rfl⟩
  go_wp2_with fail
  go_ret
  exact⟨rfl,bR.alloc lr _⟩
 ·have hv:=h4 (by omega)
  have o1:decide ((x.op:Int)<0)=false:=dF (by omega)
  have o2:decide ((6:Int)<(x.op:Int))=false:=dF (by omega)
  have o3:((x.op:Int)==0)=false:=by simp;omega
  have hC:=fun W hW=>aU 3 (bG x.ver) W hW (by omega)
  rw[hv] at hC
  clear h2 h3 h4 hv
  generalize bG x.ver=V at *
  go_enter Tryz.func220,Tryz.ntmps220
  go_wp2_with fail
  refine(hN _).mono ?_;rintro e w' ⟨rfl,rfl⟩
  go_wp2_with fail
  refine(hC _ (HG.out.alloc _)).mono ?_;rintro e w1 ⟨rfl,hb1⟩
  go_wp2_with fail
  go_ret
  exact⟨rfl,(bR.alloc lr _).trans (hb1.mono (by simp))⟩
theorem AC (A:OA)(c:Nat)(L:List fH)(hL:∀ x∈L,x.right)(h64:L.length≤64)(w:World)(hG:Gl w)(hr:Rd w 4 A L.length (L.flatMap fH.cells)):
  Calls Tryz.prog 182 #[.slice A L.length c] w fun e w'=>e=.returned (.int .i64 0)∧Below w.heap.size w w':=by
 have HG:=ae hG;have HR:=ae hr;have HL:=ae hL
 clear hG hr hL
 go_enter Tryz.func182,Tryz.ntmps182
 go_wp2_with fail
 go_loopw [11] (fun i wr=>∃ k:Nat,k≤L.length∧i=.int .i64 k∧Hid (Below w.heap.size w wr)) (fun i _=>L.length-(intOf i).toNat)
 case atStart=>exact⟨0,z0,rfl,bR⟩
 case round=>
  obtain⟨k,hk,rfl,HB⟩:=hrel
  by_cases hlt:k<L.length
  ·obtain⟨x,hx⟩:∃ x,L[k]?=some x:=⟨_,gG hlt⟩
   obtain⟨b,off,hA,he⟩:=(HR.out.below HB.out).elem Cl k x hx
   have e0:=he 0 _ rfl
   have e1:=he 1 _ rfl
   have e2:=he 2 _ rfl
   have e3:=he 3 _ rfl
   simp only[Nat.add_zero] at e0
   have hix:=fun W=>aH (T:=174) (E:=226) (sz:=4) (c:=c) Tryz.underlying174 rfl Tryz.sizeOf226 hA hlt W
   have HX:=ae (HL.out x (gM hx))
   clear hx he hA
   go_wp2_with fail
   have B1:=ae (HB.out.alloc HB.out.size (.cells #[.bool x.no,.string (bG x.name),.int .i64 x.op,.string (bG x.ver)] 226))
   refine(AA x HX.out _ (HG.out.below B1.out)).mono ?_;rintro e w1 ⟨rfl,hb1⟩
   have B2:Hid (Below w.heap.size w w1):=ap B1.out hb1
   clear hb1 e0 e1 e2 e3 hix
   go_wp2_with fail
   go_roundw
   case rel=>exact⟨k+1,by omega,by go_num,B2⟩
   case measure=>simp[intOf];omega
  ·go_wp2_with fail
   go_ret
   exact⟨rfl,HB.out⟩
theorem nV (A:OA)(c:Nat)(xs:List BA)(sep:BA)(w:World)(hr:Rd w 1 A xs.length (az xs))(hc:xs.length≤c)(hn:xs.length≤140737488355328)(hlen:(Lib.join (xs.map bl) (bl sep)).length≤140737488355328):
  Calls Tryz.prog 174 #[.slice A xs.length c,.string sep] w fun e w'=>e=.returned (.string (bG (Lib.join (xs.map bl) (bl sep))))∧Below w.heap.size w w':=by
 by_cases h0:xs.length=0
 ·have:xs=[]:=List.length_eq_zero_iff.1 h0
  subst this
  exact(Tryz.strings_Join_none A c sep w).mono fun _ _ ⟨he,hw⟩=>⟨he,by rw[hw];exact bR⟩
 ·obtain⟨b,off,rfl,hcell⟩:=hr.2 (by omega)
  have hb:b<w.heap.size:=by
   have h1:=hcell 0 (.string xs[0]) (by simp[az])
   exact World.block_lt_of_cell? _ _ h1
  exact(Tryz.strings_Join b off c xs sep w (fun j x hx=>hcell j _ (by simp[az,hx])) hb hn hc hlen).mono fun _ _ ⟨he,hw⟩=>⟨he,hw⟩
end
section
open Go.RowKit Go.Deep
structure mM (w wr:World) (xs:List BA) (A:OA) (n c:Nat):Prop where
 len:xs.length=n
 row:wr.ownsRow w.heap.size 9 1 (.slice A n c) n (az xs)
 bel:Below w.heap.size w wr
theorem mM.below {w wr w':World}{xs:List BA}{A:OA}{n c:Nat}(h:mM w wr xs A n c)(hb:Below wr.heap.size wr w'):mM w w' xs A n c:=
 ⟨h.len,aD h.row hb,ap h.bel hb⟩
theorem mM.nil (w:World):mM w w [] none 0 0:=⟨rfl,World.ownsRow_nil _ _ _ _,bR⟩
theorem mM.grow {w wr w2:World}{xs:List BA}{A A1:OA}{n c c1:Nat}{o:Obj}{x:BA}(h:mM w wr xs A n c)
  (hr:w2.ownsRow w.heap.size 9 1 (.slice A1 (n+1) c1) (n+1) (az xs++[.string x]))
  (hg:(wr.alloc o).grownBy w2 (Value.slice A n c).ownBlock):mM w w2 (xs++[x]) A1 (n+1) c1:=by
 refine⟨by simp[h.len],by rw[show az (xs++[x])=az xs++[.string x] by simp[az]];exact hr,?_⟩
 exact(h.bel.alloc h.bel.size o).grown hg (by have:=h.bel.size;simp;omega) (fun j hj=>by have:=(h.row.lt j hj).1;omega)
theorem fB (w:World)(t:TypeId)(a:Value):ji (w.alloc (.cells #[a] t)) (w.heap.size+1) 1 (some ⟨w.heap.size,0,none⟩) 1 [a]:=by
 refine⟨rfl,fun _=>⟨_,rfl,by simp,fun j u hu=>?_⟩⟩
 match j,hu with
 | 0,hu=>simp at hu;subst hu;simp[Addr.add]
 | j+1,hu=>simp at hu
theorem kY {w:World}{base:Nat}{e:TypeId}{size n c:Nat}{A:OA}{xs:LV}(h:w.ownsRow base e size (.slice A n c) n xs):n≤c:=by
 rcases h.2 with⟨h0,h1⟩ | ⟨g,cap,cur,hv,_,_,h2,_⟩
 ·omega
 ·injection hv with _ _ h3;omega
theorem lG (sep:LU)(b:Nat):∀ (l:List (LU)),(∀ x∈l,x.length≤b)→(Lib.join l sep).length≤l.length*(b+sep.length)
 | [],_=>by simp[Lib.join,List.intercalate]
 | [a],h=>by have:=h a (by simp);simp[Lib.join,List.intercalate];omega
 | a::c::r,h=>by
  have h1:=h a (by simp)
  have ih:=lG sep b (c::r) (fun x hx=>h x (by simp at hx ⊢;exact .inr hx))
  have e:Lib.join (a::c::r) sep=a++sep++Lib.join (c::r) sep:=by simp[Lib.join,List.intercalate,List.intersperse]
  rw[e,List.length_append,List.length_append,List.length_cons,Nat.succ_mul]
  omega
theorem fH.text_eq (x:fH)(hx:x.right):bl (if x.no then (⟨#[33]⟩:BA)++(bG x.name++nj x.op++bG x.ver) else bG x.name++nj x.op++bG x.ver)=x.text:=by
 have h7:x.op<7:=by have:=hx.2.1;omega
 unfold fH.text
 cases x.no with
 | true=>simp[cq,et,rD x.op h7];rfl
 | false=>simp[cq,et,rD x.op h7]
theorem wu (k:Nat):(iu k).length≤2:=by unfold iu;split<;>simp
theorem fH.text_len (x:fH)(hx:x.right):x.text.length≤131:=by
 obtain⟨z1,z2⟩:=hx.sizes
 have:=wu x.op
 unfold fH.text;cases x.no<;>simp<;>omega
theorem rM (A:OA)(c:Nat)(L:List fH)(hL:∀ x∈L,x.right)(h64:L.length≤64)(w:World)(hG:Gl w)(hr:Rd w 4 A L.length (L.flatMap fH.cells)):
  Calls Tryz.prog 128 #[.slice A L.length c] w fun e w'=>e=.returned (.tuple #[.string (bG (uG L)),.int .i64 0])∧Below w.heap.size w w':=by
 obtain⟨i0,hi0,hz0,hz1,hz2⟩:=info_parts kK
 have HG:=ae hG;have HR:=ae hr;have HL:=ae hL
 clear hG hr hL
 go_enter Tryz.func128,Tryz.ntmps128
 go_wp2_with fail
 refine(AC A c L HL.out h64 w HG.out HR.out).mono ?_;rintro e w0 ⟨rfl,hb0⟩
 have HB0:=ae hb0;clear hb0
 go_wp2_with fail
 go_loopw [5,16] (fun l i wr=>∃ (k:Nat) (xs:List BA) (B:OA) (cc:Nat),k≤L.length∧l=.slice B k cc∧i=.int .i64 k∧Hid (mM w0 wr xs B k cc)∧Hid (xs.map bl=(L.take k).map fH.text)) (fun _ i _=>L.length-(intOf i).toNat)
 case atStart=>exact⟨0,[],none,0,z0,rfl,rfl,mM.nil w0,rfl⟩
 case round=>
  obtain⟨k,xs,B,cc,hk,rfl,rfl,HS,HT⟩:=hrel
  by_cases hlt:k<L.length
  ·obtain⟨x,hx⟩:∃ x,L[k]?=some x:=⟨_,gG hlt⟩
   obtain⟨b,off,hA,he⟩:=(HR.out.below (ap HB0.out HS.out.bel)).elem Cl k x hx
   have e0:=he 0 _ rfl
   have e1:=he 1 _ rfl
   have e2:=he 2 _ rfl
   have e3:=he 3 _ rfl
   simp only[Nat.add_zero] at e0
   have hix:=fun W=>aH (T:=174) (E:=226) (sz:=4) (c:=c) Tryz.underlying174 rfl Tryz.sizeOf226 hA hlt W
   have HX:=ae (HL.out x (gM hx))
   have h7:x.op<7:=by have:=HX.out.2.1;omega
   have TK:Hid ((L.take (k+1)).map fH.text=(L.take k).map fH.text++[x.text]):=by
    show _=_;obtain⟨hk',hf'⟩:=gS hx;rw[tS hk',hf'];simp
   clear hx he hA
   have K0:Hid (av (wr.alloc (.cells #[.bool x.no,.string (bG x.name),.int .i64 x.op,.string (bG x.ver)] 226)) wr.heap.size x.cells):=av.new wr x.cells _
   have hsg:=(HG.out.below (ap (ap HB0.out HS.out.bel) (bR.alloc lr (.cells #[.bool x.no,.string (bG x.name),.int .i64 x.op,.string (bG x.ver)] 226)))).asg x.op h7
   have S0:=ae (HS.out.below (bR.alloc lr (.cells #[.bool x.no,.string (bG x.name),.int .i64 x.op,.string (bG x.ver)] 226)))
   have s1:(bG x.name).size≤64:=by rw[bV];exact HX.out.sizes.1
   have s2:(bG x.ver).size≤64:=by rw[bV];exact HX.out.sizes.2
   have s3:(nj x.op).size≤2:=by rw[←ah,rD x.op h7];exact wu _
   go_upto_region 8 with(fail)
   go_cut [8] (fun v wx=>v=.string (bG x.name++nj x.op++bG x.ver)∧Hid (mM w0 wx xs B k cc)∧Hid (av wx wr.heap.size x.cells))
   case first=>
    go_quiet (fail)
    go_wp2_with fail
    go_meet
    exact⟨rfl,S0.out.below ⟨rfl,rfl,rfl,lr,fun _ _=>rfl⟩,K0.out.drewN _⟩
   case rest=>
   obtain⟨rfl,S1,K1⟩:=hcut
   clear e0 e1 e2 e3 hix hsg S0 K0
   have c0:=K1.out.cell 0 _ rfl
   have TX:=ae (x.text_eq HX.out)
   have hYz:(bG x.name++nj x.op++bG x.ver).size≤130:=by
    have h1:=HX.out.sizes;have h2:=wu x.op
    rw[←ah,cq,cq,et,et,rD x.op h7];simp;omega
   generalize bG x.name++nj x.op++bG x.ver=Y at *
   cases hno:x.no with
   | false=>
    rw[hno] at c0 TX
    have HTX:Hid (bl Y=x.text):=TX.out
    clear TX hno
    go_wp2_with (at_builtin;refine au _ rfl _ _ _ rfl w0.heap.size 9 i0 _ 1 16 Tryz.underlying22 hi0 hz0 hz1 hz2 rfl (by omega) (.slice B k cc) k _ rfl (S1.out.row.alloc _) (wc.heap.size+1) (some ⟨wc.heap.size,0,none⟩) 1 1 [.string Y] rfl (fB wc _ _) (by simp[Value.oneCell']) (by simp only[maxLen];omega) (by omega) (by simp;have:=S1.out.bel.size;omega) ?_;intro v1 w1 o1 g1 a1)
    obtain⟨A1,c1,rfl⟩:=aL o1
    have R1:=ae (S1.out.grow (x:=Y) o1 g1)
    clear o1 g1 a1
    go_wp2_with fail
    go_roundw
    case rel=>exact⟨k+1,xs++[Y],A1,c1,by omega,rfl,by go_num,R1,by show _=_;rw[TK.out,List.map_append,HT.out];simp[HTX.out]⟩
    case measure=>simp[intOf];omega
   | true=>
    rw[hno] at c0 TX
    have HTX:Hid (bl ((⟨#[33]⟩:BA)++Y)=x.text):=TX.out
    clear TX hno
    go_wp2_with (at_builtin;refine au _ rfl _ _ _ rfl w0.heap.size 9 i0 _ 1 16 Tryz.underlying22 hi0 hz0 hz1 hz2 rfl (by omega) (.slice B k cc) k _ rfl (S1.out.row.alloc _) (wc.heap.size+1) (some ⟨wc.heap.size,0,none⟩) 1 1 [.string (⟨#[33]⟩++Y)] rfl (fB wc _ _) (by simp[Value.oneCell']) (by simp only[maxLen];omega) (by omega) (by simp;have:=S1.out.bel.size;omega) ?_;intro v1 w1 o1 g1 a1)
    obtain⟨A1,c1,rfl⟩:=aL o1
    have R1:=ae (S1.out.grow (x:=⟨#[33]⟩++Y) o1 g1)
    clear o1 g1 a1
    go_wp2_with fail
    go_roundw
    case rel=>exact⟨k+1,xs++[⟨#[33]⟩++Y],A1,c1,by omega,rfl,by go_num,R1,by show _=_;rw[TK.out,List.map_append,HT.out];simp[HTX.out]⟩
    case measure=>simp[intOf];omega
  ·have hkL:k=L.length:=by omega
   have EX:Hid (xs.map bl=L.map fH.text):=by show _=_;rw[HT.out,hkL,List.take_length]
   have hln:=HS.out.len
   have hcap:=kY HS.out.row
   have JL:Hid ((Lib.join (xs.map bl) (bl ⟨#[32]⟩)).length≤140737488355328):=by
    have h1:=lG (bl ⟨#[32]⟩) 131 (xs.map bl) (fun y hy=>by rw[EX.out] at hy;obtain⟨z,hz,rfl⟩:=List.mem_map.1 hy;exact z.text_len (HL.out z hz))
    have h2:(bl ⟨#[32]⟩:LU).length=1:=rfl
    rw[h2,List.length_map,hln] at h1
    show _≤_;omega
   have HJ:=ae (fun (_:Unit)=>nV B cc xs ⟨#[32]⟩ wr (by rw[hln];exact cP HS.out.row) (by omega) (by omega) JL.out)
   rw[hln] at HJ
   clear hcap JL hln hkL
   go_wp2_with fail
   refine(HJ.out ()).mono ?_;rintro e w2 ⟨rfl,hb2⟩
   have ET:Hid (bG (Lib.join (xs.map bl) (bl ⟨#[32]⟩))=bG (uG L)):=by show _=_;rw[EX.out];rfl
   have B2:Hid (Below w.heap.size w w2):=ap (ap HB0.out HS.out.bel) hb2
   clear hb2
   go_wp2_with fail
   go_ret2
   exact⟨by rw[←ET.out];rfl,B2.out⟩
end
end Go.Proofs.YtlglfpbhapmhiaaGreatDoor
