/- A part of the proof. -/
import Derived.Test.YtaohgmcbpafdeaaGreatDoorA40
set_option maxRecDepth 100000
set_option maxHeartbeats 20000000
set_option linter.unusedVariables false
set_option linter.unusedSimpArgs false
namespace Go.Proofs.YtaohgmcbpafdeaaGreatDoor
section
open Go.RowKit Go.Maps
structure vj (w wr:World) (V:Value) (p1 p2:List am) (ps:List BA) (n2:Nat):Prop where
 blk:ax wr (w.heap.size+1+1) [V,.map (some w.heap.size),.map (some (w.heap.size+1))]
 one:aX wr w.heap.size p1.length (M9 p1)
 two:us wr (w.heap.size+1) n2 p2 ps
 bel:Below w.heap.size w wr
theorem vj.below {w wr w':World}{V:Value}{p1 p2:List am}{ps:List BA}{n2:Nat}(h:vj w wr V p1 p2 ps n2)(hb:Below wr.heap.size wr w'):vj w w' V p1 p2 ps n2:=
 ⟨h.blk.below hb,h.one.below hb,h.two.below hb,aq h.bel hb⟩
theorem vj.ck {w wr:World}{V:Value}{p:List am}{n2:Nat}(h:vj w wr V p p [] n2):iP wr (w.heap.size+1+1) w.heap.size (w.heap.size+1) n2 V p []:=⟨h.blk,h.one,h.two⟩
theorem vk {l:List am}{s:BA}(h:aV l s=none):cO l s=none:=by
 rcases iO l s with⟨h1,_⟩ | ⟨i,y,_,_,h3,_⟩
 ·exact h1
 ·rw[h] at h3;cases h3
theorem vj.put1 {w wr w':World}{V:Value}{p:List am}{n2:Nat}{x:am}(h:vj w wr V p p [] n2)(hf:aV p x.path=none)(hm:aX w' w.heap.size (p.length+1) (fun s=>if s=x.path then some (.int .i64 p.length) else M9 p s))(hg:wr.grownBy w' (some w.heap.size)):
  vj w w' V (p++[x]) p [] n2:=by
 refine⟨h.blk.grownC hg (by omega),?_,h.two.kept hg (by intro e;injection e with e;omega),h.bel.grown hg h.bel.size (fun j hj=>by injection hj with hj;omega)⟩
 rw[IK (vk hf),List.length_append];exact hm
theorem vj.put2 {w wr w':World}{V:Value}{p1 p2:List am}{ps:List BA}{n2:Nat}{s:BA}(h:vj w wr V p1 p2 ps n2)(hm:us w' (w.heap.size+1) (n2+1) p2 (ps++[s]))(hg:wr.grownBy w' (some (w.heap.size+1))):
  vj w w' V p1 p2 (ps++[s]) (n2+1):=
 ⟨h.blk.grownC hg (by omega),h.one.kept hg (by intro e;injection e with e;omega),hm,h.bel.grown hg h.bel.size (fun j hj=>by injection hj with hj;omega)⟩
theorem vj.next {w wr:World}{V:Value}{p:List am}{n2:Nat}{x:am}(h:vj w wr V (p++[x]) p (aL x.path) n2):vj w wr V (p++[x]) (p++[x]) [] n2:=⟨h.blk,h.one,h.two.next,h.bel⟩
theorem Mh {l:List am}{k:Nat}{x:am}(hn:¬ 4096<l.length)(h:l[k]?=some x)(h0:eW [] l=eW (l.take k) (l.drop k))(he:fZ (l.take k) x≠0):nR l=(k,fZ (l.take k) x):=by
 unfold nR;rw[if_neg hn];exact yO h h0 he
theorem Mi {l:List am}{k:Nat}(hn:¬ 4096<l.length)(hk:l.length≤k)(h0:eW [] l=eW (l.take k) (l.drop k)):nR l=(0,0):=by
 unfold nR;rw[if_neg hn];exact yP hk h0
def MN (l:List am):Value:=.tuple #[.int .i64 ((nR l).1:Nat),.int .i64 (nR l).2]
theorem ud (A:OA)(cap:Nat)(l:List am)(w:World)(hG:Gl w)(hE:dz w A l)(hl:l.length≤100000)(hs:∀ x∈l,x.small):
  Calls Tryz.prog 13 #[.slice A l.length cap] w fun e w'=>e=.returned (MN l)∧Below w.heap.size w w':=by
 have HG:=ae hG
 have HE:=ae hE
 have HS:=ae hs
 clear hG hE hs
 by_cases hn:4096<l.length
 ·have R:Hid (MN l=.tuple #[.int .i64 4096,.int .i64 4]):=by show _=_;unfold MN nR;rw[if_pos hn];rfl
  have hn1:(4096:Int)<(l.length:Int):=by omega
  go_enter Tryz.func13,Tryz.ntmps13
  go_wp2_with fail
  go_ret2
  exact⟨by rw[R.out];rfl,bR⟩
 have hn1:¬ (4096:Int)<(l.length:Int):=by omega
 obtain⟨W1,hW1⟩:∃ W1,((w.alloc (.map #[] 0)).alloc (.map #[] 0)).alloc (.cells #[.slice A l.length cap,.map (some w.heap.size),.map (some (w.heap.size+1))] 89)=W1:=⟨_,rfl⟩
 have I1:Hid (vj w W1 (.slice A l.length cap) [] [] [] 0):=by
  show vj _ _ _ _ _ _ _
  rw[←hW1]
  have m1:=aX.made w
  have m2:=us.made (w.alloc (.map #[] 0))
  have b:=ax.new ((w.alloc (.map #[] 0)).alloc (.map #[] 0)) [.slice A l.length cap,.map (some w.heap.size),.map (some (w.heap.size+1))] 89
  simp only[World.size_alloc] at m2 b
  exact⟨b,(m1.below (bR.alloc lr _)).below (bR.alloc lr _),m2.below (bR.alloc lr _),((bR.alloc lr _).alloc (by simp) _).alloc (by simp;omega) _⟩
 have hmm:=@run_makeMap Tryz.prog
 go_enter Tryz.func13,Tryz.ntmps13
 go_wp2_with fail
 clear hmm hW1
 go_loopw [20] (fun i wr=>∃ (k n2:Nat),k≤l.length∧n2≤200*k∧i=.int .i64 k∧Hid (eW [] l=eW (l.take k) (l.drop k))∧Hid (vj w wr (.slice A l.length cap) (l.take k) (l.take k) [] n2)) (fun i _=>l.length-(intOf i).toNat)
 case atStart=>exact⟨0,0,z0,z0,rfl,rfl,I1⟩
 case round=>
  obtain⟨k,n2,hk,hn2,rfl,HA,HI⟩:=hrel
  clear I1
  by_cases hlt:k<l.length
  case neg=>
   have R:Hid (MN l=.tuple #[.int .i64 0,.int .i64 0]):=by show _=_;unfold MN;rw[Mi hn (by omega) HA.out];rfl
   go_wp2_with fail
   go_ret2
   exact⟨by rw[R.out];rfl,HI.out.bel⟩
  obtain⟨x,hx⟩:∃ x,l[k]?=some x:=⟨_,gG hlt⟩
  obtain⟨b,off,hA,hel⟩:=((HE.out.below HI.out.bel).row).elem fi k x hx
  have hix:=fun W=>aI (T:=23) (E:=45) (sz:=10) (c:=cap) Tryz.underlying23 rfl Tryz.sizeOf45 hA hlt W
  have e0:=hel 0 _ rfl
  have e1:=hel 1 _ rfl
  have e2:=hel 2 _ rfl
  have e3:=hel 3 _ rfl
  have e4:=hel 4 _ rfl
  have e5:=hel 5 _ rfl
  have e6:=hel 6 _ rfl
  have e7:=hel 7 _ rfl
  have e8:=hel 8 _ rfl
  have e9:=hel 9 _ rfl
  simp only[Nat.add_zero] at e0
  have HX:=ae hx
  have SX:=ae (HS.out x (gM hx))
  clear hx hA hel
  obtain⟨wo,rfl⟩:∃ wo:World,wo=wr:=⟨_,rfl⟩
  have hz0:w.heap.size+1<wo.heap.size:=HI.out.two.lt
  obtain⟨W2,hW2⟩:∃ W2,wo.alloc (.cells #[.string x.path,.int .i64 x.kind,.int .i64 x.mode,.int .i64 x.uid,.int .i64 x.gid,.string x.owner,.string x.group,.int .i64 x.mtime,.string x.link,.slice x.da x.data.length x.dc] 45)=W2:=⟨_,rfl⟩
  have B2:Hid (EB wo W2 x):=by show EB _ _ _;rw[←hW2];exact EB.start wo x
  have I2:=ae (HI.out.below B2.out.bel)
  have HW2:=ae hW2
  clear hW2
  go_wp2_with fail
  rw[HW2.out]
  clear HW2 hix e0 e1 e2 e3 e4 e5 e6 e7 e8 e9
  have CK:=AF A cap l (l.take k) _ _ _ _ x W2 (HG.out.below I2.out.bel) (HE.out.below I2.out.bel) I2.out.ck (fun i y hy=>by rw[List.getElem?_take] at hy;split at hy;exact hy;cases hy) SX.out hl
  unfold am.val at CK
  refine CK.mono ?_;rintro e w3 ⟨rfl,hb3⟩
  have B3:=ae (B2.out.step hb3)
  have I3:=ae (I2.out.below hb3)
  clear hb3 CK B2 I2 HI
  by_cases he:fZ (l.take k) x=0
  case neg=>
   have q:(fZ (l.take k) x != 0)=true:=by simpa using he
   have R:Hid (MN l=.tuple #[.int .i64 k,.int .i64 (fZ (l.take k) x)]):=by show _=_;unfold MN;rw[Mh hn HX.out HA.out he]
   clear he
   go_wp2_with fail
   go_ret2
   exact⟨by rw[R.out];rfl,I3.out.bel⟩
  rw[he]
  have HA2:=ae (vu HX.out HA.out he)
  obtain⟨g1,g2,_⟩:=iz he
  have G1:=ae g1
  have G2:=ae g2
  have hp2:=pH g1
  clear he g1 g2 HA
  have b0:=B3.out.blk.cell 0 _ rfl
  have k1:=I3.out.blk.cell 1 _ rfl
  have hlen:(l.take k).length=k:=by rw[List.length_take];omega
  obtain⟨w4,hrun,hm,hg⟩:=(I3.out.one.below (show Below w3.heap.size w3 w3.drew from⟨rfl,rfl,rfl,lr,fun _ _=>rfl⟩)).put Tryz.underlying87 (by rw[hlen];unfold maxLen;omega) x.path (by unfold maxLen;omega) (.int .i64 k)
  have HM:=ae hm
  have HGR:=ae hg
  have B4:Hid (ax w4 wo.heap.size x.cells):=B3.out.blk.drew.grownC HGR.out (by omega)
  have I4:Hid (vj w w4 (.slice A l.length cap) (l.take k++[x]) (l.take k) [] n2):=by
   refine(I3.out.below (show Below w3.heap.size w3 w3.drew from⟨rfl,rfl,rfl,lr,fun _ _=>rfl⟩)).put1 G2.out ?_ HGR.out
   have:=HM.out
   rw[hlen] at this ⊢;exact this
  have hz4:w.heap.size+1<w4.heap.size:=I4.out.two.lt
  clear hm hg
  have d0:=B4.out.cell 0 _ rfl
  have hdrop:=ae (nx HX.out)
  have HLEN:=ae hlen
  clear hlen
  go_wp2_with fail
  go_region
  go_wp2_with fail
  refine(mx x.path _ (by omega)).mono ?_;rintro e w5 ⟨Ap,cp,rfl,hr,hb5⟩
  have I5:=ae (I4.out.below hb5)
  have R5:=ae hr
  clear hr hb5 d0 b0 k1 hrun B3 I3 B4 I4 HM HGR
  have hpl:(aL x.path).length≤200:=by have:=rM x.path;omega
  go_wp2_with fail
  go_loopw [43] (fun j wr=>∃ (m:Nat),m≤(aL x.path).length∧j=.int .i64 m∧Hid (vj w wr (.slice A l.length cap) (l.take k++[x]) (l.take k) ((aL x.path).take m) (n2+m))∧Hid (wr.ownsRow w4.heap.size 9 1 (.slice Ap (aL x.path).length cp) (aL x.path).length (az (aL x.path)))) (fun j _=>(aL x.path).length-(intOf j).toNat)
  case atStart=>exact⟨0,z0,rfl,I5,R5⟩
  case round=>
   obtain⟨m,hm,rfl,I6,R6⟩:=hrel
   clear I5 R5
   by_cases hlt2:m<(aL x.path).length
   case neg=>
    have I7:Hid (vj w wr (.slice A l.length cap) (l.take (k+1)) (l.take (k+1)) [] (n2+m)):=by
     have:=I6.out
     have hm2:(aL x.path).take m=aL x.path:=tL (by omega)
     rw[hm2] at this
     rw[hdrop.out];exact this.next
    go_wp2_with fail
    go_roundw
    case rel=>exact⟨k+1,n2+m,by omega,by omega,by go_num,HA2,I7⟩
    case measure=>simp[intOf];omega
   obtain⟨s,hs⟩:∃ s,(aL x.path)[m]?=some s:=⟨_,gG hlt2⟩
   obtain⟨bp,op,hAp,hep⟩:=(cH R6.out).str m s hs
   have hixp:=fun W=>aI (T:=26) (E:=9) (sz:=1) (c:=cp) Tryz.underlying26 rfl Tryz.sizeOf9 hAp hlt2 W
   simp only[Nat.mul_one] at hixp
   have hsm:=pT (gM hs)
   have TK:=ae (nx hs)
   clear hs hAp
   have k2:=I6.out.blk.cell 2 _ rfl
   obtain⟨w7,hrun,hm7,hg7⟩:=I6.out.two.put Tryz.underlying87 (by unfold maxLen;omega) s (by unfold maxLen;omega) (.int .i64 k)
   have I7:Hid (vj w w7 (.slice A l.length cap) (l.take k++[x]) (l.take k) ((aL x.path).take (m+1)) (n2+(m+1))):=by
    have:=I6.out.put2 hm7 hg7
    rw[TK.out];exact this
   have R7:Hid (w7.ownsRow w4.heap.size 9 1 (.slice Ap (aL x.path).length cp) (aL x.path).length (az (aL x.path))):=bN R6.out hz4 hg7
   clear hm7 hg7
   go_wp2_with fail
   go_roundw
   case rel=>exact⟨m+1,by omega,by go_num,I7,R7⟩
   case measure=>simp[intOf];omega
end
end Go.Proofs.YtaohgmcbpafdeaaGreatDoor
