/- A part of the proof. -/
import Derived.Test.YtaohgmcbpafdeaaGreatDoorA48
set_option maxRecDepth 100000
set_option maxHeartbeats 20000000
set_option linter.unusedVariables false
set_option linter.unusedSimpArgs false
namespace Go.Proofs.YtaohgmcbpafdeaaGreatDoor
section
open Go.RowKit Go.Maps Go.Shelf
theorem AW:∀ (l:List bJ),(bL l).length≤lJ l
 | []=>by simp[bL]
 | p::r=>by
  have h1:=AW r
  have h2:=kw (fun x:av=>1+x.path.size+x.owner.size+x.group.size+x.link.size+x.sum.size) (fun _=>by omega) p.files
  have e1:(bL (p::r)).length=p.files.length+(bL r).length:=by unfold bL;simp
  have e2:lJ (p::r)=(1+jB p)+lJ r:=by unfold lJ;simp
  have e3:cT p.files≤jB p:=by unfold jB;omega
  unfold cT at e3
  omega
theorem Dx {x:am}(h:x.lite)(hc:x.data.length≤x.dc∧x.dc≤9223372036854775807):x.small:=by
 have h1:=h.path;have h2:=h.owner;have h3:=h.group;have h4:=h.link;have h5:=h.data
 exact⟨by omega,by omega,by omega,by omega,by omega,hc.1,hc.2⟩
theorem Hv (w:World):(w.alloc (.cells #[] 45)).ownsRow w.heap.size 45 10 (.slice (some ⟨w.heap.size,0,none⟩) 0 0) 0 []:=
 ⟨rfl,.inr ⟨w.heap.size,0,#[],rfl,lr,heap_alloc_new w _,lr,by unfold maxLen;omega,rfl,rfl⟩⟩
theorem KD (l:List am):∀ u∈l.flatMap am.cells,u.oneCell'=true:=by
 intro u hu
 obtain⟨x,_,hx⟩:=List.mem_flatMap.1 hu
 exact Er x u hx
theorem Oc {w:World}{base:Nat}{e:TypeId}{size n c:Nat}{A:OA}{xs:LV}(h:w.ownsRow base e size (.slice A n c) n xs):n≤c:=by
 rcases h.2 with⟨hv,hn⟩ | ⟨g,cap,cur,hv,_,_,hle,_⟩
 ·injection hv with _ h1 h2;omega
 ·injection hv with _ _ h2;omega
theorem Mr (x:cl)(s:BA)(W:World):(binOp .eql 34 (.agg #[.string x.1,.int .i64 x.2]) (.agg #[.string s,.int .i64 5])).run Tryz.prog W=.ok (.bool ((x.1.toList==s.toList)&&(x.2==5))) W:=by
 go_simp
 (repeat' split)<;>simp_all
def O9 (s:BA)(x:cl):Bool:=(x.1.toList==s.toList)&&(x.2==5)
theorem KE {fmt:Int}{db:List bJ}{t t2:List am}(h:0=pK fmt db t)(h2:(nR t2).2=0):pK fmt db t2=0:=by
 unfold pK at h ⊢
 by_cases hD:(yn (fT fmt) (jg fmt) db).2.2≠0
 ·rw[if_pos hD] at h;exact absurd h.symm hD
 ·rw[if_neg hD];exact h2
def qQ (s:BA):am:=⟨s,1,0,0,0,⟨#[]⟩,⟨#[]⟩,0,⟨#[]⟩,none,0,[]⟩
theorem Hw (fmt:Int)(Ad:OA)(cd:Nat)(db:List bJ)(Ae:OA)(ce:Nat)(tree:List am)(s:BA)(w:World)(hG:BV w)(hT:rn w)(hd:oO w Ad db)(hf:∀ p∈db,p.fits)(hdl:db.length≤9223372036854775807)
  (hE:dz w Ae tree)(hEf:∀ x∈tree,x.fits)(hEl:tree.length≤9223372036854775807)(hEc:∀ x∈tree,x.data.length≤x.dc∧x.dc≤9223372036854775807)(hs:s.size≤9223372036854775807):
  Calls Tryz.prog 3 #[.int .i64 fmt,.slice Ad db.length cd,.slice Ae tree.length ce,.string s] w fun e w'=>e=.returned (.bool true)∧Below w.heap.size w w':=by
 have HG:=ae hG
 have HT:=ae hT
 have HD:=ae hd
 have HF:=ae hf
 have HE:=ae hE
 have HEF:=ae hEf
 have HEC:=ae hEc
 clear hG hT hd hf hE hEf hEc
 go_enter Tryz.func3,Tryz.ntmps3
 go_wp2_with fail
 refine(AP w HG.out HT.out).mono ?_;rintro e w1 ⟨rfl,hb1⟩
 have L1:=ae hb1
 clear hb1
 obtain⟨W2,hW2⟩:∃ W2,w1.alloc (.cells #[.string s] 9)=W2:=⟨_,rfl⟩
 have B2:Hid (Below w1.heap.size w1 W2):=by show Below _ _ _;rw[←hW2];exact bR.alloc lr _
 have X2:Hid (ax W2 w1.heap.size [.string s]):=by show ax _ _ _;rw[←hW2];exact ax.new w1 [.string s] _
 have L2:=ae (aq L1.out B2.out)
 have HW2:=ae hW2
 clear hW2
 go_wp2_with fail
 rw[HW2.out]
 refine(AS Ad cd db Ae ce tree w1.heap.size s W2 (HD.out.below L2.out) HF.out hdl (HE.out.below L2.out) HEF.out hEl (X2.out.cell 0 _ rfl) hs).mono ?_;rintro e w3 ⟨⟨b,rfl,hb⟩,hb3⟩
 have L3:=ae (aq L2.out hb3)
 have HB:=ae hb
 clear hb hb3 HW2 L1 B2 X2 L2
 cases b
 case false=>
  go_wp2_with fail
  go_ret
  exact⟨rfl,L3.out⟩
 obtain⟨⟨hdb,hwd⟩,⟨htr,hli⟩,hs5⟩:=HB.out rfl
 have HS:Hid (∀ x∈tree,x.small):=fun x hx=>Dx (hli x hx) (HEC.out x hx)
 have HW:Hid (∀ p∈db,jB p≤1000000):=fun p hp=>by have:=Md hp;omega
 have HP1:(gU db).length≤30000:=by have:=iH db;omega
 have HF1:(bL db).length≤10000:=by have:=AW db;omega
 have HLI:=ae hli
 clear hli HB
 obtain⟨W4,hW4⟩:∃ W4,w3.alloc (.cells #[.string ⟨#[]⟩] 9)=W4:=⟨_,rfl⟩
 have B4:Hid (Below w3.heap.size w3 W4):=by show Below _ _ _;rw[←hW4];exact bR.alloc lr _
 have X4:Hid (ax W4 w3.heap.size [.string ⟨#[]⟩]):=by show ax _ _ _;rw[←hW4];exact ax.new w3 [.string ⟨#[]⟩] _
 have L4:=ae (aq L3.out B4.out)
 have HW4:=ae hW4
 clear hW4
 go_wp2_with fail
 rw[HW4.out]
 refine(pL fmt Ad cd db Ae ce tree w3.heap.size 0 1 W4 (HG.out.below L4.out) (HT.out.below L4.out) (HD.out.below L4.out) (HE.out.below L4.out) (X4.out.cell 0 _ rfl) (by omega) (by omega) HW.out HP1 HF1 HF.out (by omega) HS.out).mono ?_;rintro e w5 ⟨A,cap,fs,r0,r1,r2,rfl,hb5,hrd,_,hr2,hne,h0⟩
 have L5:=ae (aq L4.out hb5)
 have RD5:=ae hrd
 have AR:=ae hr2
 have NE:=ae hne
 have H0:=ae h0
 have L5':Hid (w.heap.size≤w5.heap.size):=L5.out.size
 clear hb5 hrd hr2 hne h0 HW4 L3 B4 X4 L4
 obtain⟨W6,hW6⟩:∃ W6,w5.alloc (.cells #[.string r0,.string r1,.int .i64 r2] 30)=W6:=⟨_,rfl⟩
 have B6:Hid (Below w5.heap.size w5 W6):=by show Below _ _ _;rw[←hW6];exact bR.alloc lr _
 have X6:Hid (ax W6 w5.heap.size [.string r0,.string r1,.int .i64 r2]):=by show ax _ _ _;rw[←hW6];exact ax.new w5 [.string r0,.string r1,.int .i64 r2] _
 have L6:=ae (aq L5.out B6.out)
 have RD6:=ae (RD5.out.below B6.out)
 have HW6:=ae hW6
 clear hW6
 go_upto_if 38 with(fail)
 rw[HW6.out]
 clear HW6 B6 L5 RD5
 have x2:=X6.out.cell 2 _ rfl
 by_cases hz:r2=0
 case neg=>
  have q:(r2 != 0)=true:=by simpa using hz
  have ql:((fs.length:Int)==0)=true:=by rw[NE.out hz];rfl
  clear hz
  go_wp2_with fail
  go_ret
  exact⟨rfl,L6.out⟩
 subst hz
 obtain⟨_,hft,hnd,_,hfm,hfl0⟩:=H0.out rfl
 have FT:=ae hft
 have ND:=ae hnd
 have FM:=ae hfm
 have FL:Hid (fs.length≤100000):=by
  exact hfl0
 have hfl:=FL.out
 clear hft hnd hfm hfl0 NE H0
 go_wp2_with fail
 go_loopw [11] (fun i wr=>∃ k:Nat,k≤fs.length∧i=.int .i64 k∧Hid (Below W6.heap.size W6 wr)∧Hid (∀ x∈fs.take k,x.2=6)) (fun i _=>fs.length-(intOf i).toNat)
 case atStart=>exact⟨0,z0,rfl,bR,by simp[Hid]⟩
 case round=>
  obtain⟨k,hk,rfl,B,S6⟩:=hrel
  by_cases hlt:k<fs.length
  case pos=>
   have hlt2:(k:Int)<(fs.length:Int):=by omega
   obtain⟨x,hx⟩:∃ x,fs[k]?=some x:=⟨_,gG hlt⟩
   obtain⟨b,off,hA,hel⟩:=(RD6.out.below B.out).elem kQ k x hx
   have hix:=fun W=>aI (T:=27) (E:=34) (sz:=2) (c:=cap) Tryz.underlying27 rfl Tryz.sizeOf34 hA hlt W
   have e1:=hel 1 _ rfl
   have TK:Hid (fs.take (k+1)=fs.take k++[x]):=ny hx
   clear hx hA hel
   by_cases h6:x.2=6
   case pos=>
    have q:(x.2 != 6)=false:=by simp[h6]
    have SX:Hid (∀ y∈fs.take (k+1),y.2=6):=fun y hy=>by
     rw[TK.out] at hy
     rcases List.mem_append.1 hy with hy | hy
     ·exact S6.out y hy
     ·rw[List.mem_singleton.1 hy];exact h6
    rw[h6] at e1
    clear h6
    go_wp2_with fail
    go_roundw
    case rel=>exact⟨k+1,by omega,by go_num,B,SX⟩
    case measure=>simp[intOf];omega
   have q:(x.2 != 6)=true:=by simpa using h6
   clear h6
   go_wp2_with fail
   go_ret
   exact⟨rfl,aq L6.out B.out⟩
  have hlt2:¬ (k:Int)<(fs.length:Int):=by omega
  have S7:Hid (∀ x∈fs,x.2=6):=by
   show ∀ _,_
   have h:=S6.out
   rw[tL (by omega)] at h
   exact h
  have CF:=ae (qj FM.out S7.out)
  clear S6 hlt
  go_wp2_with fail
  go_loopw [12] (fun i wr=>∃ k:Nat,k≤db.length∧i=.int .i64 k∧Hid (Below W6.heap.size W6 wr)) (fun i _=>db.length-(intOf i).toNat)
  case atStart=>exact⟨0,z0,rfl,B⟩
  case round=>
   clear B
   obtain⟨k2,hk2,rfl,B⟩:=hrel
   by_cases hlt3:k2<db.length
   case pos=>
    have hlt4:(k2:Int)<(db.length:Int):=by omega
    obtain⟨p,hp⟩:∃ p,db[k2]?=some p:=⟨_,gG hlt3⟩
    have HP:=ae hp
    clear hp
    have PLn:p.files.length≤10000:=by
     have h:=um db (k2+1)
     rw[wy HP.out,List.length_append] at h
     omega
    go_wp2_with fail
    go_loopw [13] (fun i wr=>∃ j:Nat,j≤p.files.length∧i=.int .i64 j∧Hid (Below W6.heap.size W6 wr)) (fun i _=>p.files.length-(intOf i).toNat)
    case atStart=>exact⟨0,z0,rfl,B⟩
    case round=>
     clear B
     obtain⟨j,hj,rfl,B⟩:=hrel
     have BW:=ae (aq L6.out B.out)
     obtain⟨b,off,hA,hel⟩:=(HD.out.below BW.out).row.elem oP k2 p HP.out
     have hix:=fun W=>aI (T:=22) (E:=39) (sz:=9) (c:=cd) Tryz.underlying22 rfl Tryz.sizeOf39 hA hlt3 W
     have e7:=hel 7 _ rfl
     clear hA hel
     by_cases hlj:j<p.files.length
     case neg=>
      have hlj2:¬ (j:Int)<(p.files.length:Int):=by omega
      go_wp2_with fail
      go_roundw
      case rel=>exact⟨k2+1,by omega,by go_num,B⟩
      case measure=>simp[intOf];omega
     have hlj2:(j:Int)<(p.files.length:Int):=by omega
     obtain⟨f,hf⟩:∃ f,p.files[j]?=some f:=⟨_,gG hlj⟩
     obtain⟨b2,off2,hA2,hel2⟩:=(((HD.out.below BW.out).all p (gM HP.out)).files).elem iD j f hf
     have hix2:=fun W=>aI (T:=36) (E:=42) (sz:=8) (c:=p.fc) Tryz.underlying36 rfl Tryz.sizeOf42 hA2 hlj W
     have g0:=hel2 0 _ rfl
     simp only[Nat.add_zero] at g0
     have GE:=Mj (CF.out f (Kt (gM HP.out) (gM hf)))
     obtain⟨v,hv⟩:∃ v,eU tree f.path 0=v:=⟨_,rfl⟩
     have FI:=ae fun W (h:dz W Ae tree)=>uf Ae ce tree f.path W h (by omega)
     rw[hv] at GE FI
     have GE2:¬ v<0:=by omega
     clear hf hA2 hel2 GE hv
     go_wp2_with fail
     refine(FI.out _ (HE.out.below BW.out)).mono ?_;rintro e w9 ⟨rfl,rfl⟩
     go_wp2_with fail
     go_roundw
     case rel=>exact⟨j+1,by omega,by go_num,B⟩
     case measure=>simp[intOf];omega
   have hlt4:¬ (k2:Int)<(db.length:Int):=by omega
   obtain⟨i0,hi0,hz0,hz1,hz2⟩:=info_parts Kk
   have BW:=ae (aq L6.out B.out)
   have O0:=ae (Hv wr)
   have L10:Hid (Below wr.heap.size wr (wr.alloc (.cells #[] 45))):=bR.alloc lr _
   have R0:=ae ((HE.out.below (aq BW.out L10.out)).row.reads (by decide))
   go_wp2_with (first
    | (at_builtin
       refine aD _ rfl _ _ 23 rfl wr.heap.size 45 i0 _ 10 128 Tryz.underlying23 hi0 hz0 hz1 hz2 rfl (by omega) (.slice (some ⟨wr.heap.size,0,none⟩) 0 0) 0 _ rfl O0.out _ Ae tree.length ce _ rfl R0.out (KD tree) (by first | (simp only[maxLen];omega) | (unfold maxLen;omega)) (by omega) (by first | omega | (simp;done) | (simp;omega)) ?_
       intro v1 w10 o1 g1 a1
       obtain⟨A1,c1,rfl⟩:=aP o1
       have O1:Hid (w10.ownsRow wr.heap.size 45 10 (.slice A1 tree.length c1) tree.length (tree.flatMap am.cells)):=by
        show World.ownsRow _ _ _ _ _ _ _
        rw[Nat.zero_add,List.nil_append] at o1
        exact o1
       have G1:Hid (Below wr.heap.size wr w10):=by show Below _ _ _;exact L10.out.grown g1 L10.out.size (fun j hj=>(O0.out.lt j hj).1)
       have L11:Hid (Below w10.heap.size w10 (w10.alloc (.cells #[.string s,.int .i64 1,.int .i64 0,.int .i64 0,.int .i64 0,.string ⟨#[]⟩,.string ⟨#[]⟩,.int .i64 0,.string ⟨#[]⟩,.slice none 0 0] 45))):=bR.alloc lr _
       have O11:=ae (cR O1.out L11.out)
       have R1:Hid (iF (w10.alloc (.cells #[.string s,.int .i64 1,.int .i64 0,.int .i64 0,.int .i64 0,.string ⟨#[]⟩,.string ⟨#[]⟩,.int .i64 0,.string ⟨#[]⟩,.slice none 0 0] 45)) (w10.alloc (.cells #[.string s,.int .i64 1,.int .i64 0,.int .i64 0,.int .i64 0,.string ⟨#[]⟩,.string ⟨#[]⟩,.int .i64 0,.string ⟨#[]⟩,.slice none 0 0] 45)).heap.size 10 (some ⟨w10.heap.size,0,none⟩) 1 (qQ s).cells):=(xY (sz:=10) (vs:=(qQ s).cells) (ax.new w10 (qQ s).cells _) rfl).reads (by decide)
       have G11:Hid (Below wr.heap.size wr (w10.alloc (.cells #[.string s,.int .i64 1,.int .i64 0,.int .i64 0,.int .i64 0,.string ⟨#[]⟩,.string ⟨#[]⟩,.int .i64 0,.string ⟨#[]⟩,.slice none 0 0] 45))):=aq G1.out L11.out
       clear o1 g1 a1 R0 O0 L10 O1 L11
       rw[Nat.zero_add])
    | (at_builtin
       refine aD _ rfl _ _ 23 rfl wr.heap.size 45 i0 _ 10 128 Tryz.underlying23 hi0 hz0 hz1 hz2 rfl (by omega) (.slice A1 tree.length c1) tree.length _ rfl O11.out _ (some ⟨w10.heap.size,0,none⟩) 1 1 _ rfl R1.out (Er (qQ s)) (by first | (simp only[maxLen];omega) | (unfold maxLen;omega)) (by omega) (by have:=G11.out.size;omega) ?_
       intro v1 w12 o2 g2 a2
       obtain⟨A2,c2,rfl⟩:=aP o2
       have O2:=ae o2
       have G2:Hid (Below wr.heap.size wr w12):=by show Below _ _ _;exact G11.out.grown g2 G11.out.size (fun j hj=>(O11.out.lt j hj).1)
       clear o2 g2 a2 R1 O11 G11 G1))
   have L12:=ae (aq BW.out G2.out)
   have hl2:(tree++[qQ s]).length=tree.length+1:=by simp
   have E12:Hid (dz w12 A2 (tree++[qQ s])):=by
    refine⟨?_,fun x hx=>?_⟩
    ·have h:Rd w12 10 A2 (tree.length+1) (tree.flatMap am.cells++(qQ s).cells):=cH O2.out
     rw[hl2,List.flatMap_append]
     simpa using h
    ·rcases List.mem_append.1 hx with hx | hx
     ·exact(HE.out.below L12.out).all x hx
     ·rw[List.mem_singleton.1 hx];exact Rd.nil _ _ _
   have CP:tree.length+1≤c2:=Oc O2.out
   have HS2:Hid (∀ x∈tree++[qQ s],x.small):=fun x hx=>by
    rcases List.mem_append.1 hx with hx | hx
    ·exact HS.out x hx
    ·rw[List.mem_singleton.1 hx]
     exact⟨by show s.size≤_;omega,by show(0:Nat)≤_;omega,by show(0:Nat)≤_;omega,by show(0:Nat)≤_;omega,by show(0:Nat)≤_;omega,by show(0:Nat)≤_;omega,by show(0:Nat)≤_;omega⟩
   have CK:=ae (ur A2 c2 (tree++[qQ s]) w12 E12.out HS2.out (by omega) (by omega))
   rw[hl2] at CK
   obtain⟨C,hC⟩:∃ C,nR (tree++[qQ s])=C:=⟨_,rfl⟩
   rw[hC] at CK
   have HC:=ae hC
   have G2':=ae G2.out
   clear hC G2 O2
   obtain⟨ci,cc⟩:=C
   go_wp2_with fail
   refine CK.out.mono ?_;rintro e w13 ⟨rfl,hb13⟩
   have L13:=ae (aq L12.out hb13)
   have E13:=ae (E12.out.below hb13)
   have hb13':=ae hb13
   clear hb13 CK E12 L12
   by_cases hcc:cc=0
   case neg=>
    have q:(cc != 0)=true:=by simpa using hcc
    clear hcc
    go_wp2_with fail
    go_ret
    exact⟨rfl,L13.out⟩
   have A2Z:Hid (pK fmt db (tree++[qQ s])=0):=KE AR.out (by rw[HC.out];exact hcc)
   subst hcc
   obtain⟨W14,hW14⟩:∃ W14,w13.alloc (.cells #[.string ⟨#[]⟩] 9)=W14:=⟨_,rfl⟩
   have B14:Hid (Below w13.heap.size w13 W14):=by show Below _ _ _;rw[←hW14];exact bR.alloc lr _
   have X14:Hid (ax W14 w13.heap.size [.string ⟨#[]⟩]):=by show ax _ _ _;rw[←hW14];exact ax.new w13 [.string ⟨#[]⟩] _
   have L14:=ae (aq L13.out B14.out)
   have HW14:=ae hW14
   clear hW14
   have AU:=ae (pL fmt Ad cd db A2 c2 (tree++[qQ s]) w13.heap.size 0 1 W14 (HG.out.below L14.out) (HT.out.below L14.out) (HD.out.below L14.out) (E13.out.below B14.out) (X14.out.cell 0 _ rfl) (by omega) (by omega) HW.out HP1 HF1 HF.out (by omega) HS2.out)
   rw[hl2] at AU
   go_wp2_with fail
   rw[HW14.out]
   refine AU.out.mono ?_;rintro e w15 ⟨A3,cap3,ms,s0,s1,s2,rfl,hb15,hrd3,hnew3,hs2,_,h3⟩
   rw[A2Z.out] at hs2
   subst hs2
   obtain⟨_,hf3,hn3,_,hm3,hml⟩:=h3 rfl
   have PM:=ae (Dq FT.out hf3 ND.out hn3 FM.out hm3 S7.out)
   have L15:=ae (aq L14.out hb15)
   have RD15:=ae hrd3
   have ML:Hid (ms.length=fs.length+1):=by show _=_;rw[PM.out.length_eq];simp
   have X15:=ae (X6.out.below (aq (aq (aq (aq B.out G2'.out) hb13'.out) B14.out) hb15))
   have W5L:w5.heap.size<W14.heap.size:=Nat.lt_of_lt_of_le X6.out.sz ((aq (aq (aq B.out G2'.out) hb13'.out) B14.out).size)
   have NW:Hid (∀ b off sp,A3=some ⟨b,off,sp⟩→b≠w5.heap.size):=fun b off sp h=>by have:=hnew3 b off sp h;omega
   clear W5L hnew3
   clear hb15 hrd3 h3 hf3 hn3 hm3 AU HW14 L13 B14 X14 L14 E13
   have u0:=X15.out.cell 0 _ rfl
   have u1:=X15.out.cell 1 _ rfl
   have u2:=X15.out.cell 2 _ rfl
   have z0:=X15.out.free 0 (by simp)
   have z1:=X15.out.free 1 (by simp)
   have z2:=X15.out.free 2 (by simp)
   have qm:((ms.length:Int) != (fs.length:Int)+1)=false:=by have:=ML.out;simp;omega
   have hml2:ms.length≤100001:=by have:=ML.out;omega
   go_upto_if 114 with(fail)
   have RD16:=ae (((RD15.out.setOut NW.out 0 (.string ⟨#[]⟩)).setOut NW.out 1 (.string ⟨#[]⟩)).setOut NW.out 2 (.int .i64 0))
   have L16:Hid (Below w.heap.size w (((w15.setCell ⟨w5.heap.size,0,none⟩ (.string ⟨#[]⟩)).setCell ⟨w5.heap.size,1,none⟩ (.string ⟨#[]⟩)).setCell ⟨w5.heap.size,2,none⟩ (.int .i64 0))):=(ak (ak (ak L15.out (show w.heap.size≤w5.heap.size from L5'.out) (.string ⟨#[]⟩)) (show w.heap.size≤w5.heap.size from L5'.out) (.string ⟨#[]⟩)) (show w.heap.size≤w5.heap.size from L5'.out) (.int .i64 0))
   clear RD15 L15 u0 u1 u2 z0 z1 z2 X15
   generalize ((w15.setCell ⟨w5.heap.size,0,none⟩ (.string ⟨#[]⟩)).setCell ⟨w5.heap.size,1,none⟩ (.string ⟨#[]⟩)).setCell ⟨w5.heap.size,2,none⟩ (.int .i64 0)=W16 at *
   go_wp2_with fail
   go_loopw [18,19] (fun t i wr=>∃ (k:Nat) (b:Bool),k≤ms.length∧t=.bool b∧i=.int .i64 k∧Hid (Below W16.heap.size W16 wr)∧Hid (b=(ms.take k).any (O9 s))) (fun _ i _=>ms.length-(intOf i).toNat)
   case atStart=>exact⟨0,false,z0,rfl,rfl,bR,rfl⟩
   case round=>
    obtain⟨k9,b9,hk9,rfl,rfl,B9,F9⟩:=hrel
    by_cases hlt9:k9<ms.length
    case pos=>
     have hlt10:(k9:Int)<(ms.length:Int):=by omega
     obtain⟨x,hx⟩:∃ x,ms[k9]?=some x:=⟨_,gG hlt9⟩
     obtain⟨b,off,hA,hel⟩:=(RD16.out.below B9.out).elem kQ k9 x hx
     have hix:=fun W=>aI (T:=27) (E:=34) (sz:=2) (c:=cap3) Tryz.underlying27 rfl Tryz.sizeOf34 hA hlt9 W
     have e0:=hel 0 _ rfl
     have e1:=hel 1 _ rfl
     simp only[Nat.add_zero] at e0
     have F10:Hid ((ms.take (k9+1)).any (O9 s)=(b9||O9 s x)):=by show _=_;rw[ny hx,List.any_append,←F9.out];simp
     clear hx hA hel
     cases b9
     case true=>
      go_wp2_with fail
      go_roundw
      case rel=>exact⟨k9+1,true,by omega,rfl,by go_num,B9,F10.out.symm⟩
      case measure=>simp[intOf];omega
     have hq:=fun W=>Mr x s W
     go_wp2_with fail
     go_roundw
     case rel=>exact⟨k9+1,_,by omega,rfl,by go_num,B9,by rw[F10.out];rfl⟩
     case measure=>simp[intOf];omega
    have hlt10:¬ (k9:Int)<(ms.length:Int):=by omega
    have BT:Hid (b9=true):=by
     show _=_
     rw[F9.out,tL (by omega),List.any_eq_true]
     exact⟨(s,5),PM.out.mem_iff.2 (List.mem_append_right _ (List.mem_singleton.2 rfl)),by unfold O9;simp⟩
    rw[BT.out]
    go_wp2_with fail
    go_ret
    exact⟨rfl,aq L16.out B9.out⟩
end
end Go.Proofs.YtaohgmcbpafdeaaGreatDoor
