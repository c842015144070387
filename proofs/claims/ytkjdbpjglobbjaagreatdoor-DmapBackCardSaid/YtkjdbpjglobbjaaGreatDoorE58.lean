/- A part of the proof of a law on dependencies in three formats. No condition. -/
import Derived.Test.YtkjdbpjglobbjaaGreatDoorE31
import Derived.Test.YtkjdbpjglobbjaaGreatDoorE40
import Derived.Test.YtkjdbpjglobbjaaGreatDoorE57
set_option maxRecDepth 100000
set_option maxHeartbeats 20000000
set_option linter.unusedVariables false
set_option linter.unusedSimpArgs false
namespace Go.Proofs.YtkjdbpjglobbjaaGreatDoor
section
open Go.ChangeShapes Go.WideShapes Go.Deep Go.RowKit
structure aq.fits (d:aq):Prop where
 len:d.alts.length≤9223372036854775807
 each:∀ g∈d.alts,yM g
section
variable {H : Type} {enc : TypeId × Value → H} {w : World} {spare : Nat → Bool}
theorem Nl {fuel:Nat}{v:Value}{d:DataW H×List MemPlace}(h:DataW.trod enc Tryz.prog w 0 spare true fuel 22 [v]=some d):
  ∃ (A:Option Addr) (c:Nat) (l:List aq),v=.slice A l.length c∧eW w A l∧(∀ x∈l,x.fits)∧l.length≤9223372036854775807:=by
 obtain⟨A,c,l,h1,h2,h3,h4,_⟩:=tK Tryz.underlying22 Tryz.underlying33 (by kernel_rfl) (by kernel_rfl) (by decide) aq.cells (fun x=>Rd w 3 x.aa x.alts.length (x.alts.flatMap aA.cells)∧x.fits) (fun _=>rfl) (fun n vs hv=>by
  obtain⟨y0,h0⟩:=hv 0 _ rfl
  obtain⟨y1,h1⟩:=hv 1 _ rfl
  obtain⟨s0,e0⟩:=Nk h0
  obtain⟨a2,c2,l2,e2,r2,x2,n2,k2⟩:=yN h1
  refine⟨⟨s0,a2,c2,l2⟩,⟨r2,⟨n2,x2⟩⟩,fun j hj=>?_⟩
  have hj':j<2:=hj
  rcases(by omega:j=0∨j=1) with rfl | rfl
  ·rw[e0];rfl
  ·rw[e2];rfl) h
 exact⟨A,c,l,h1,⟨h2,fun p hp=>(h3 p hp).1⟩,fun p hp=>(h3 p hp).2,h4⟩
end
end
section
open Go.RowKit Go.Deep
theorem DP (A B:Option Addr)(c d:Nat)(l m:List aq)(w:World)(h1:eW w A l)(h2:eW w B m)(he:l.map aq.pl=m.map aq.pl)(hl:l.length≤1000000)(hg:∀ x∈l,x.alts.length≤1000000):
  Calls Tryz.prog 10 #[.slice A l.length c,.slice B m.length d] w fun e w'=>e=.returned (.bool true)∧Below w.heap.size w w':=by
 have H1:=ae h1;have H2:=ae h2;have HE:=ae he;have HG:=ae hg
 have HL:=KG he
 rw[←HL]
 have HLM:=ae HL
 clear h1 h2 he hg HL
 have q:((l.length:Int) != (l.length:Int))=false:=by simp
 go_enter Tryz.func10,Tryz.ntmps10
 go_wp2_with fail
 go_loopw [5] (fun i wr=>∃ k:Nat,k≤l.length∧i=.int .i64 k∧Hid (Below w.heap.size w wr)) (fun i _=>l.length-(intOf i).toNat)
 case atStart=>exact⟨0,z0,rfl,bR⟩
 case round=>
  obtain⟨k,hk,rfl,HB⟩:=hrel
  by_cases hlt:k<l.length
  ·obtain⟨x,hx⟩:∃ x,l[k]?=some x:=⟨_,gG hlt⟩
   obtain⟨y,hy,hp⟩:=GX HE.out hx
   have hltm:k<m.length:=by rw[←HLM.out];exact hlt
   obtain⟨b1,o1,hA1,he1⟩:=(H1.out.row.below HB.out).elem fI k x hx
   obtain⟨b2,o2,hA2,he2⟩:=(H2.out.row.below HB.out).elem fI k y hy
   have R1:=(H1.out.all x (gM hx)).below HB.out
   have R2:=(H2.out.all y (gM hy)).below HB.out
   have hgl:=HG.out x (gM hx)
   obtain⟨bar,ga,gc,gives⟩:=x
   obtain⟨bar',ga',gc',gives'⟩:=y
   injection hp with p1 p2
   simp only at R1 R2 hgl p1 p2
   subst p1 p2
   have e0:=he1 0 _ rfl
   have e1:=he1 1 _ rfl
   have f0:=he2 0 _ rfl
   have f1:=he2 1 _ rfl
   simp only[Nat.add_zero] at e0 f0 e1 f1
   have hix:=fun W=>aH (T:=22) (E:=33) (sz:=2) (c:=c) Tryz.underlying22 rfl Tryz.sizeOf33 hA1 hlt W
   have hiy:=fun W=>aH (T:=22) (E:=33) (sz:=2) (c:=d) Tryz.underlying22 rfl Tryz.sizeOf33 hA2 hltm W
   rw[←HLM.out] at hiy
   have SA:=ae fun W hb=>pM ga ga' gc gc' gives' W (R1.below (w':=W) hb) (R2.below hb) hgl
   have bl1:b1<wr.heap.size:=World.block_lt_of_cell? _ _ e0
   have bl2:b2<wr.heap.size:=World.block_lt_of_cell? _ _ f0
   have qb:(bar' != bar')=false:=by simp
   clear hx hy hA1 hA2 he1 he2 R1 R2 hgl hltm
   generalize gives'.length=gl at *
   go_upto_region 6 with(fail)
   go_cut [41] (fun s wx=>s=.bool false∧Hid (Below wr.heap.size wr wx))
   case first=>
    go_region_held3 (fun w'=>w'.cell? ⟨b1,o1+k*2,none⟩=some (.bool bar')∧w'.cell? ⟨b1,o1+k*2+1,none⟩=some (.slice ga gl gc)∧w'.cell? ⟨b2,o2+k*2,none⟩=some (.bool bar')∧w'.cell? ⟨b2,o2+k*2+1,none⟩=some (.slice ga' gl gc'))
     (first
       | go_keep
       | exact⟨(hb4.cell (p:=⟨_,_,none⟩) bl1).trans e0,(hb4.cell (p:=⟨_,_,none⟩) bl1).trans e1,(hb4.cell (p:=⟨_,_,none⟩) bl2).trans f0,(hb4.cell (p:=⟨_,_,none⟩) bl2).trans f1⟩)
     (first
       | (go_at_call 26;refine(SA.out _ (BS bR)).mono ?_;rintro e w4 ⟨rfl,hb4⟩))
    all_goals
     have HB4:Hid (Below wr.heap.size wr w4):=ah (BS bR) hb4
     go_wp2_with fail
     go_meet
     exact⟨rfl,HB4⟩
   case rest=>
    obtain⟨rfl,HB4⟩:=hcut
    go_wp2_with fail
    go_roundw
    case rel=>exact⟨k+1,by omega,by go_num,ah HB.out HB4.out⟩
    case measure=>simp[intOf];omega
  ·go_wp2_with fail
   go_ret
   exact⟨rfl,HB.out⟩
end
end Go.Proofs.YtkjdbpjglobbjaaGreatDoor
