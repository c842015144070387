/- A part of the proof. -/
import Derived.Test.YtaohgmcbpafdeaaGreatDoorA41
import Derived.Test.YtaohgmcbpafdeaaGreatDoorA43
import Derived.Test.YtaohgmcbpafdeaaGreatDoorA45
set_option maxRecDepth 100000
set_option maxHeartbeats 20000000
set_option linter.unusedVariables false
set_option linter.unusedSimpArgs false
namespace Go.Proofs.YtaohgmcbpafdeaaGreatDoor
section
open Go.RowKit Go.Maps Go.Shelf
def NO (db:List bJ)(s:BA):Prop:=s∈(gU db).map (·.1)∧1<(kC (gU db) s).length
def pK (fmt:Int)(db:List bJ)(tree:List am):Int:=if (yn (fT fmt) (jg fmt) db).2.2≠0 then (yn (fT fmt) (jg fmt) db).2.2 else (nR tree).2
def Es (fmt:Int)(db:List bJ)(tree:List am)(w:World)(e:Ending)(w':World):Prop:=
 ∃ (A:OA) (cap:Nat) (l:List cl) (r0 r1:BA) (r2:Int),e=.returned (.tuple #[.slice A l.length cap,.agg #[.string r0,.string r1,.int .i64 r2]])∧Below w.heap.size w w'∧Rd w' 2 A l.length (l.flatMap wP)∧(∀ b off sp,A=some ⟨b,off,sp⟩→w.heap.size≤b)∧r2=pK fmt db tree ∧
  (r2≠0→l=[])∧(r2=0→(r0=⟨#[]⟩∧r1=⟨#[]⟩)∧kY tree∧l.Nodup∧l.Pairwise (fun x y=>¬ yl y x)∧(∀ x,x∈l↔lF fmt db (NO db) tree x)∧l.length≤100000)
structure Hm (w wr:World) (ab:Nat) (fmt:Int) (m1 m2 m3:Nat) (ks:List cl) (n1:Nat) (tree:List am) (L:List av) (n2:Nat):Prop where
 au:ww w wr w.heap.size ab fmt m1 m2 ks n1 (nz tree)
 fm:aX wr m3 n2 (qO L)
 ord:ab<m3
 len:n2≤L.length
 kl:ks.length≤2*L.length
 mem:∀ x,x∈ks↔∃ f∈L,x∈eL fmt tree f
theorem Hm.step {w wr w':World}{ab m1 m2 m3 n1 n2:Nat}{fmt:Int}{ks:List cl}{tree:List am}{L:List av}(h:Hm w wr ab fmt m1 m2 m3 ks n1 tree L n2)(hb:Below wr.heap.size wr w'):Hm w w' ab fmt m1 m2 m3 ks n1 tree L n2:=
 ⟨h.au.step hb,h.fm.below hb,h.ord,h.len,h.kl,h.mem⟩
theorem wy {db:List bJ}{k:Nat}{p:bJ}(hp:db[k]?=some p):bL (db.take (k+1))=bL (db.take k)++p.files:=by
 unfold bL
 rw[List.take_add_one,hp]
 simp
theorem Kt {db:List bJ}{p:bJ}{f:av}(hp:p∈db)(hf:f∈p.files):f∈bL db:=List.mem_flatMap.2 ⟨p,hp,hf⟩
theorem um (db:List bJ)(k:Nat):(bL (db.take k)).length≤(bL db).length:=by
 have h:bL db=bL (db.take k)++bL (db.drop k):=by
  unfold bL
  rw[←List.flatMap_append,List.take_append_drop]
 rw[h,List.length_append]
 omega
theorem Hn {p:bJ}{f:av}(hw:jB p≤1000000)(hf:f∈p.files):f.path.size≤1000000:=by
 unfold jB cT at hw
 have h2:=iy (fun x:av=>1+x.path.size+x.owner.size+x.group.size+x.link.size+x.sum.size) p.files f hf
 omega
def AM (F:List av)(s:BA):Int:=((ek F s).map av.kind).getD 0
def P4 (fmt:Int)(F:List av)(tree:List am)(O:List me)(x:cl):Prop:=(∃ f∈F,x∈eL fmt tree f)∨(x.2=6∧(∃ o∈O,o.path=x.1∧1<o.names.length)∧AM F x.1≠2)
theorem NQ {fmt:Int}{F:List av}{tree:List am}{O:List me}{o:me}(h1:1<o.names.length)(h2:AM F o.path≠2)(x:cl):P4 fmt F tree (O++[o]) x↔P4 fmt F tree O x∨x=(o.path,6):=by
 unfold P4
 constructor
 ·rintro(h | ⟨h6,⟨q,hq,hp,hn⟩,hk⟩)
  ·exact .inl (.inl h)
  ·rcases List.mem_append.1 hq with hq | hq
   ·exact .inl (.inr ⟨h6,⟨q,hq,hp,hn⟩,hk⟩)
   ·rw[List.mem_singleton.1 hq] at hp
    obtain⟨x1,x2⟩:=x
    simp only at h6 hp
    exact .inr (by rw[h6,hp])
 ·rintro((h | ⟨h6,⟨q,hq,hp,hn⟩,hk⟩) | rfl)
  ·exact .inl h
  ·exact .inr ⟨h6,⟨q,List.mem_append_left _ hq,hp,hn⟩,hk⟩
  ·exact .inr ⟨rfl,⟨o,List.mem_append_right _ (List.mem_singleton.2 rfl),rfl,h1⟩,h2⟩
theorem MQ {fmt:Int}{F:List av}{tree:List am}{O:List me}{o:me}(h:¬ (1<o.names.length∧AM F o.path≠2))(x:cl):P4 fmt F tree (O++[o]) x↔P4 fmt F tree O x:=by
 unfold P4
 constructor
 ·rintro(h' | ⟨h6,⟨q,hq,hp,hn⟩,hk⟩)
  ·exact .inl h'
  ·rcases List.mem_append.1 hq with hq | hq
   ·exact .inr ⟨h6,⟨q,hq,hp,hn⟩,hk⟩
   ·rw[List.mem_singleton.1 hq] at hp hn
    exact absurd ⟨hn,by rw[hp];exact hk⟩ h
 ·rintro(h' | ⟨h6,⟨q,hq,hp,hn⟩,hk⟩)
  ·exact .inl h'
  ·exact .inr ⟨h6,⟨q,List.mem_append_left _ hq,hp,hn⟩,hk⟩
theorem NS {fmt:Int}{db:List bJ}{tree:List am}{out:List me}(h:Oi (gU db) (out.map me.pair))(x:cl):P4 fmt (bL db) tree out x↔(∃ f∈bL db,x∈eL fmt tree f)∨(x.2=6∧NO db x.1∧AM (bL db) x.1≠2):=by
 have e:(∃ o∈out,o.path=x.1∧1<o.names.length)↔NO db x.1:=by
  unfold NO
  constructor
  ·rintro⟨o,ho,hp,hn⟩
   have hm:o.pair∈out.map me.pair:=List.mem_map.2 ⟨o,ho,rfl⟩
   have h1:=h.names _ hm
   refine⟨(h.mem x.1).1 (List.mem_map.2 ⟨o.pair,hm,hp⟩),?_⟩
   rw[←hp]
   have h2:o.names=kC (gU db) o.path:=h1
   rw[←h2];exact hn
  ·rintro⟨hm,hn⟩
   obtain⟨q,hq,hqp⟩:=List.mem_map.1 ((h.mem x.1).2 hm)
   obtain⟨o,ho,rfl⟩:=List.mem_map.1 hq
   have h2:o.names=kC (gU db) o.path:=h.names _ hq
   refine⟨o,ho,hqp,?_⟩
   rw[h2,show o.path=x.1 from hqp];exact hn
 unfold P4
 rw[e]
def P5 (fmt:Int)(db:List bJ)(tree T:List am)(x:cl):Prop:=((∃ f∈bL db,x∈eL fmt tree f)∨(x.2=6∧NO db x.1∧AM (bL db) x.1≠2))∨(x.2=5∧(∃ e∈T,e.path=x.1)∧ek (bL db) x.1=none)
theorem NU {fmt:Int}{db:List bJ}{tree T:List am}{e:am}(h:ek (bL db) e.path=none)(x:cl):P5 fmt db tree (T++[e]) x↔P5 fmt db tree T x∨x=(e.path,5):=by
 unfold P5
 constructor
 ·rintro(h' | ⟨h5,⟨q,hq,hp⟩,hl⟩)
  ·exact .inl (.inl h')
  ·rcases List.mem_append.1 hq with hq | hq
   ·exact .inl (.inr ⟨h5,⟨q,hq,hp⟩,hl⟩)
   ·rw[List.mem_singleton.1 hq] at hp
    obtain⟨x1,x2⟩:=x
    simp only at h5 hp
    exact .inr (by rw[h5,hp])
 ·rintro((h' | ⟨h5,⟨q,hq,hp⟩,hl⟩) | rfl)
  ·exact .inl h'
  ·exact .inr ⟨h5,⟨q,List.mem_append_left _ hq,hp⟩,hl⟩
  ·exact .inr ⟨rfl,⟨e,List.mem_append_right _ (List.mem_singleton.2 rfl),rfl⟩,h⟩
theorem OQ {fmt:Int}{db:List bJ}{tree T:List am}{e:am}(h:ek (bL db) e.path≠none)(x:cl):P5 fmt db tree (T++[e]) x↔P5 fmt db tree T x:=by
 unfold P5
 constructor
 ·rintro(h' | ⟨h5,⟨q,hq,hp⟩,hl⟩)
  ·exact .inl h'
  ·rcases List.mem_append.1 hq with hq | hq
   ·exact .inr ⟨h5,⟨q,hq,hp⟩,hl⟩
   ·rw[List.mem_singleton.1 hq] at hp
    exact absurd (by rw[hp];exact hl) h
 ·rintro(h' | ⟨h5,⟨q,hq,hp⟩,hl⟩)
  ·exact .inl h'
  ·exact .inr ⟨h5,⟨q,List.mem_append_left _ hq,hp⟩,hl⟩
theorem NV {fmt:Int}{db:List bJ}{tree:List am}(x:cl):P5 fmt db tree tree x↔lF fmt db (NO db) tree x:=by
 unfold P5 lF AM
 exact or_assoc
structure qP (w wr:World) (ab:Nat) (fmt:Int) (m1 m2 m3:Nat) (ks:List cl) (n1:Nat) (tree:List am) (F:List av) (n2:Nat) (P:cl→Prop) (N:Nat):Prop where
 au:ww w wr w.heap.size ab fmt m1 m2 ks n1 (nz tree)
 fm:aX wr m3 n2 (qO F)
 ord:ab<m3
 kl:ks.length≤N
 mem:∀ x,x∈ks↔P x
theorem qP.step {w wr w':World}{ab m1 m2 m3 n1 n2 N:Nat}{fmt:Int}{ks:List cl}{tree:List am}{F:List av}{P:cl→Prop}(h:qP w wr ab fmt m1 m2 m3 ks n1 tree F n2 P N)(hb:Below wr.heap.size wr w'):qP w w' ab fmt m1 m2 m3 ks n1 tree F n2 P N:=
 ⟨h.au.step hb,h.fm.below hb,h.ord,h.kl,h.mem⟩
theorem qP.same {w wr:World}{ab m1 m2 m3 n1 n2 N M:Nat}{fmt:Int}{ks:List cl}{tree:List am}{F:List av}{P Q:cl→Prop}(h:qP w wr ab fmt m1 m2 m3 ks n1 tree F n2 P N)(hq:∀ x,Q x↔P x)(hn:N≤M):qP w wr ab fmt m1 m2 m3 ks n1 tree F n2 Q M:=
 ⟨h.au,h.fm,h.ord,Nat.le_trans h.kl hn,fun x=>(h.mem x).trans (hq x).symm⟩
theorem qP.noted {w wr w':World}{ab m1 m2 m3 n1 n2 N:Nat}{fmt:Int}{ks:List cl}{tree:List am}{F:List av}{P Q:cl→Prop}{k:cl}(h:qP w wr ab fmt m1 m2 m3 ks n1 tree F n2 P N)(hg:wr.grownBy w' (some m2))(hm:gJ w' m2 (kI ks k))(hq:∀ x,Q x↔P x∨x=k):qP w w' ab fmt m1 m2 m3 (kI ks k) n1 tree F n2 Q (N+1):=by
 refine⟨h.au.noted hg hm,h.fm.kept hg ?_,h.ord,?_,fun x=>?_⟩
 ·have:=h.au.ord;have:=h.ord;intro e;injection e with e;omega
 ·have:=lH ks k;have:=h.kl;omega
 ·rw[lG,h.mem,hq]
theorem Rd.noted {w w':World}{sz n m2:Nat}{A:OA}{xs:LV}{ks:List cl}(h:Rd w sz A n xs)(hm:gJ w m2 ks)(hg:w.grownBy w' (some m2)):Rd w' sz A n xs:=by
 refine⟨h.1,fun hn=>?_⟩
 obtain⟨b,off,hA,hc⟩:=h.2 hn
 obtain⟨es,c,hE⟩:=hm
 refine⟨b,off,hA,fun j u hu=>?_⟩
 have h1:=hc j u hu
 have hlt:=World.block_lt_of_cell? _ _ h1
 have hne:b≠m2:=fun e=>by
  subst e
  have h2:=hE.at_
  simp[World.cell?,h2] at h1
 have hk:w'.heap[b]?=w.heap[b]?:=hg.block b hlt (by intro e;injection e with e;exact hne e)
 exact(World.cell?_of_block (a:=⟨b,off+j,none⟩) hk).trans h1
theorem Rd.setOut {w:World}{sz n r:Nat}{A:OA}{xs:LV}(h:Rd w sz A n xs)(hne:∀ b off sp,A=some ⟨b,off,sp⟩→b≠r)(k:Nat)(v:Value):Rd (w.setCell ⟨r,k,none⟩ v) sz A n xs:=by
 refine⟨h.1,fun hn=>?_⟩
 obtain⟨b,off,hA,hc⟩:=h.2 hn
 exact⟨b,off,hA,fun j u hu=>by rw[World.cell?_setCell_other (h:=by intro e;injection e with e;exact hne b off none hA e.symm)];exact hc j u hu⟩
theorem Dv (y:av)(W:World):(Instr.field 42 (.agg #[.string y.path,.int .i64 y.kind,.int .i64 y.mode,.string y.owner,.string y.group,.string y.link,.string y.sum,.bool y.conf]) 1).run Tryz.prog W=.ok (.int .i64 y.kind) W:=by kernel_rfl
def NZ:av:=⟨⟨#[]⟩,0,0,⟨#[]⟩,⟨#[]⟩,⟨#[]⟩,⟨#[]⟩,false⟩
theorem Et (F:List av)(s:BA):∃ y:av,(qO F s).getD (.agg Pn)=.agg #[.string y.path,.int .i64 y.kind,.int .i64 y.mode,.string y.owner,.string y.group,.string y.link,.string y.sum,.bool y.conf]∧y.kind=AM F s:=by
 unfold qO AM
 cases ek F s with
 | none=>exact⟨NZ,rfl,rfl⟩
 | some y=>exact⟨y,rfl,rfl⟩
theorem Ml {l:List am}(h:(nR l).2≠0):∃ x,l[(nR l).1]?=some x:=by
 unfold nR at h ⊢
 by_cases hn:4096<l.length
 ·rw[if_pos hn];exact⟨_,gG hn⟩
 ·rw[if_neg hn] at h ⊢
  exact Ep l [] h
theorem Ku {l:List am}(h:(nR l).2=0):kY l:=by
 unfold nR at h
 by_cases hn:4096<l.length
 ·rw[if_pos hn] at h;exact absurd h (by decide)
 ·rw[if_neg hn] at h;exact DS h
theorem Mm {l:List am}(h:(nR l).2=0):l.length≤4096:=by
 unfold nR at h
 by_cases hn:4096<l.length
 ·rw[if_pos hn] at h;exact absurd h (by decide)
 ·omega
theorem N3 {fmt:Int}{db:List bJ}(h:(yn (fT fmt) (jg fmt) db).2.2=0):fmt=1∨fmt=2∨fmt=3:=by
 cases hf:jg fmt with
 | true=>exact Aj hf
 | false=>rw[hf] at h;unfold yn at h;rw[if_pos rfl] at h;exact absurd h (by decide)
theorem Dw {W:World}{r:Nat}{t:Array Value}{v:Value}{r0 r1:BA}{r2:Int}(h8:t[8]?=some v)(h9:t[9]?=some (.pointer (some ⟨r,0,none⟩)))(R:ax W r [.string r0,.string r1,.int .i64 r2]):
  (results Tryz.f6 t).run Tryz.prog W=.ok (.tuple #[v,.agg #[.string r0,.string r1,.int .i64 r2]]) W:=by
 have u0:=R.cell 0 _ rfl
 have u1:=R.cell 1 _ rfl
 have u2:=R.cell 2 _ rfl
 simp(maxDischargeDepth:=14) [results,Tryz.results6,h8,h9,go_sem,u0,u1,u2]
theorem ax.put3 {W:World}{r:Nat}(h:ax W r KY)(r0 r1:BA)(r2:Int):ax (((W.setCell ⟨r,0,none⟩ (.string r0)).setCell ⟨r,1,none⟩ (.string r1)).setCell ⟨r,2,none⟩ (.int .i64 r2)) r [.string r0,.string r1,.int .i64 r2]:=by
 have h1:=h.set 0 (by simp[KY]) (.string r0)
 have h2:=h1.set 1 (by simp[KY]) (.string r1)
 exact h2.set 2 (by simp[KY]) (.int .i64 r2)
theorem pL (fmt:Int)(Ad:OA)(cd:Nat)(db:List bJ)(Ae:OA)(ce:Nat)(tree:List am)(rb ro cr:Nat)(w:World)(hG:BV w)(hT:rn w)(hd:oO w Ad db)(hE:dz w Ae tree)(hr:w.cell? ⟨rb,ro,none⟩=some (.string ⟨#[]⟩))
  (hl:db.length≤100000)(hwd:lJ db≤10000000)(hw:∀ p∈db,jB p≤1000000)(hpr:(gU db).length≤30000)(hfl:(bL db).length≤10000)(hpf:∀ p∈db,p.fits)(htl:tree.length≤100000)(hs:∀ x∈tree,x.small):
  Calls Tryz.prog 6 #[.int .i64 fmt,.slice Ad db.length cd,.slice Ae tree.length ce,.slice (some ⟨rb,ro,none⟩) 1 cr] w (Es fmt db tree w):=by
 have HG:=ae hG
 have HT:=ae hT
 have HD:=ae hd
 have HE:=ae hE
 have HR:=ae hr
 have HRL:Hid (rb<w.heap.size):=by show _<_;exact World.block_lt_of_cell? _ _ hr
 have HS:=ae hs
 have HW:=ae hw
 have HPF:=ae hpf
 have HWD:=ae hwd
 clear hG hT hd hE hr hs hw hpf hwd
 obtain⟨W0,hW0⟩:∃ W0,w.alloc (.cells #[.string ⟨#[]⟩,.string ⟨#[]⟩,.int .i64 0] 30)=W0:=⟨_,rfl⟩
 have L0:Hid (Below w.heap.size w W0):=by show Below _ _ _;rw[←hW0];exact bR.alloc lr _
 have R0:Hid (ax W0 w.heap.size KY):=by show ax _ _ _;rw[←hW0];exact ax.new w KY _
 have HW0:=ae hW0
 clear hW0
 have hmm:=@run_makeMap Tryz.prog
 obtain⟨D,hD⟩:∃ D,yn (fT fmt) (jg fmt) db=D:=⟨_,rfl⟩
 have HDB:=ae hD
 clear hD
 go_enter Tryz.func6,Tryz.ntmps6
 go_wp2_with fail
 rw[HW0.out]
 clear HW0
 refine(Am fmt Ad cd db W0 (HG.out.below L0.out) (HD.out.below L0.out) hl HWD.out HW.out).mono ?_;rintro e w1 ⟨rfl,hb1⟩
 rw[HDB.out]
 obtain⟨d0,d1,d2⟩:=D
 unfold Nt
 dsimp only
 have L1:=ae (aq L0.out hb1)
 have R1:=ae (R0.out.below hb1)
 clear hb1 L0 R0
 obtain⟨W2,hW2⟩:∃ W2,w1.alloc (.cells #[.string d0,.string d1,.int .i64 d2] 30)=W2:=⟨_,rfl⟩
 have B2:Hid (Below w1.heap.size w1 W2):=by show Below _ _ _;rw[←hW2];exact bR.alloc lr _
 have X2:Hid (ax W2 w1.heap.size [.string d0,.string d1,.int .i64 d2]):=by show ax _ _ _;rw[←hW2];exact ax.new w1 [.string d0,.string d1,.int .i64 d2] _
 have HW2:=ae hW2
 clear hW2
 have L2:=ae (aq L1.out B2.out)
 have R2:=ae (R1.out.below B2.out)
 have NE:Hid (w1.heap.size≠w.heap.size):=by have:=R1.out.sz;show _≠_;omega
 go_upto_if 33 with(fail)
 rw[HW2.out]
 have x0:=X2.out.cell 0 _ rfl
 have x1:=X2.out.cell 1 _ rfl
 have x2:=X2.out.cell 2 _ rfl
 clear HW2 L1 R1 B2
 by_cases hd2:d2=0
 case neg=>
  have q:(d2 != 0)=true:=by simpa using hd2
  have AR:Hid (d2=pK fmt db tree):=by show _=_;unfold pK;rw[HDB.out,if_pos hd2]
  have D2:=ae hd2
  have f0:=R2.out.free 0 (by decide)
  have f1:=R2.out.free 1 (by decide)
  have f2:=R2.out.free 2 (by decide)
  have u0:=R2.out.cell 0 _ rfl
  have u1:=R2.out.cell 1 _ rfl
  have u2:=R2.out.cell 2 _ rfl
  have HN:=NE.out
  clear hd2
  go_wp2_with fail
  go_region
  all_goals
   have P:Hid (ax (((W2.setCell ⟨w.heap.size,0,none⟩ (.string d0)).setCell ⟨w.heap.size,1,none⟩ (.string d1)).setCell ⟨w.heap.size,2,none⟩ (.int .i64 d2)).drew w.heap.size [.string d0,.string d1,.int .i64 d2]):=(ax.put3 R2.out d0 d1 d2).drew
   have PB:Hid (Below w.heap.size w (((W2.setCell ⟨w.heap.size,0,none⟩ (.string d0)).setCell ⟨w.heap.size,1,none⟩ (.string d1)).setCell ⟨w.heap.size,2,none⟩ (.int .i64 d2)).drew):=fq (ak (ak (ak L2.out lr _) lr _) lr _)
   go_wp2_with fail
   exact bodyPost_ret (Dw rfl rfl P.out) rfl ⟨none,0,[],d0,d1,d2,rfl,PB.out,Rd.nil _ _ _,(fun _ _ _ h=>by cases h),AR.out,fun _=>rfl,fun h=>absurd h D2.out⟩
 have q:(d2 != 0)=false:=by simp[hd2]
 have FM:Hid (fmt=1∨fmt=2∨fmt=3):=N3 (by rw[HDB.out];exact hd2)
 have AR0:Hid ((nR tree).2=pK fmt db tree):=by show _=_;unfold pK;rw[HDB.out,if_neg (by simpa using hd2)]
 clear hd2
 obtain⟨C,hC⟩:∃ C,nR tree=C:=⟨_,rfl⟩
 have HC:=ae hC
 clear hC
 obtain⟨ci,c2⟩:=C
 go_wp2_with fail
 refine(ud Ae ce tree W2 (HG.out.1.below L2.out) (HE.out.below L2.out) htl HS.out).mono ?_;rintro e w3 ⟨rfl,hb3⟩
 unfold MN
 rw[HC.out]
 dsimp only
 have L3:=ae (aq L2.out hb3)
 have R3:=ae (R2.out.below hb3)
 clear hb3 L2 R2 x0 x1 x2 X2 NE
 by_cases hc2:c2=0
 case neg=>
  have q:(c2 != 0)=true:=by simpa using hc2
  have AR:Hid (c2=pK fmt db tree):=by show _=_;rw[←AR0.out,HC.out]
  have C2:=ae hc2
  obtain⟨x,hx⟩:=Ml (l:=tree) (by rw[HC.out];exact hc2)
  rw[HC.out] at hx
  have hlt:ci<tree.length:=(gS hx).1
  obtain⟨b,off,hA,hel⟩:=(HE.out.below L3.out).row.elem fi ci x hx
  have hix:=fun W=>aI (T:=23) (E:=45) (sz:=10) (c:=ce) Tryz.underlying23 rfl Tryz.sizeOf45 hA hlt W
  have e0:=hel 0 _ rfl
  simp only[Nat.add_zero] at e0
  have f0:=R3.out.free 0 (by decide)
  have f1:=R3.out.free 1 (by decide)
  have f2:=R3.out.free 2 (by decide)
  have u0:=R3.out.cell 0 _ rfl
  have u1:=R3.out.cell 1 _ rfl
  have u2:=R3.out.cell 2 _ rfl
  clear hc2 hx hA hel
  go_wp2_with fail
  go_region
  all_goals
   have P:Hid (ax (((w3.setCell ⟨w.heap.size,0,none⟩ (.string ⟨#[]⟩)).setCell ⟨w.heap.size,1,none⟩ (.string x.path)).setCell ⟨w.heap.size,2,none⟩ (.int .i64 c2)).drew w.heap.size [.string ⟨#[]⟩,.string x.path,.int .i64 c2]):=(ax.put3 R3.out ⟨#[]⟩ x.path c2).drew
   have PB:Hid (Below w.heap.size w (((w3.setCell ⟨w.heap.size,0,none⟩ (.string ⟨#[]⟩)).setCell ⟨w.heap.size,1,none⟩ (.string x.path)).setCell ⟨w.heap.size,2,none⟩ (.int .i64 c2)).drew):=fq (ak (ak (ak L3.out lr _) lr _) lr _)
   go_wp2_with fail
   exact bodyPost_ret (Dw rfl rfl P.out) rfl ⟨none,0,[],⟨#[]⟩,x.path,c2,rfl,PB.out,Rd.nil _ _ _,(fun _ _ _ h=>by cases h),AR.out,fun _=>rfl,fun h=>absurd h C2.out⟩
 have q:(c2 != 0)=false:=by simp[hc2]
 have FT:Hid (kY tree):=Ku (by rw[HC.out];exact hc2)
 have TL:Hid (tree.length≤4096):=Mm (by rw[HC.out];exact hc2)
 have AR:Hid (0=pK fmt db tree):=by show _=_;rw[←AR0.out,HC.out];exact hc2.symm
 clear hc2 AR0
 have A4:=ae (ww.made (fmt:=fmt) L3.out R3.out lr R3.out.sz)
 obtain⟨W4,hW4⟩:∃ W4,((w3.alloc (.map #[] 0)).alloc (.map #[] 0)).alloc (.cells #[.int .i64 fmt,.map (some w3.heap.size),.map (some (w3.heap.size+1))] 57)=W4:=⟨_,rfl⟩
 rw[hW4] at A4
 have HW4:=ae hW4
 clear hW4
 go_wp2_with fail
 rw[HW4.out]
 clear HW4 L3 R3
 generalize w3.heap.size+1+1=ab at A4 ⊢
 generalize w3.heap.size+1=m2 at A4 ⊢
 generalize w3.heap.size=m1 at A4 ⊢
 go_loopw [55] (fun i wr=>∃ (k n1:Nat),k≤tree.length∧i=.int .i64 k∧n1≤k∧Hid (ww w wr w.heap.size ab fmt m1 m2 [] n1 (nz (tree.take k)))) (fun i _=>tree.length-(intOf i).toNat)
 case atStart=>exact⟨0,0,z0,rfl,lr,A4⟩
 case round=>
  obtain⟨k,n1,hk,rfl,hn1,A5⟩:=hrel
  clear A4
  by_cases hlt:k<tree.length
  case pos=>
   have hlt2:(k:Int)<(tree.length:Int):=by omega
   obtain⟨x,hx⟩:∃ x,tree[k]?=some x:=⟨_,gG hlt⟩
   obtain⟨b,off,hA,hel⟩:=(HE.out.below A5.out.bel).row.elem fi k x hx
   have hix:=fun W=>aI (T:=23) (E:=45) (sz:=10) (c:=ce) Tryz.underlying23 rfl Tryz.sizeOf45 hA hlt W
   have e0:=hel 0 _ rfl
   have e1:=hel 1 _ rfl
   have e2:=hel 2 _ rfl
   have e3:=hel 3 _ rfl
   have e4:=hel 4 _ rfl
   have e5:=hel 5 _ rfl
   have e6:=hel 6 _ rfl
   have e7:=hel 7 _ rfl
   have e8:=hel 8 _ rfl
   have e9:=hel 9 _ rfl
   simp only[Nat.add_zero] at e0
   have SX:=ae (HS.out x (gM hx))
   have NX:Hid (nz (tree.take (k+1))=fun s=>if s=x.path then some x.val else nz (tree.take k) s):=by
    show _=_
    rw[show tree.take (k+1)=tree.take k++[x] by rw[List.take_add_one,hx];rfl,Hi]
   clear hx hA hel
   obtain⟨W6,hW6⟩:∃ W6,wr.alloc (.cells #[.string x.path,.int .i64 x.kind,.int .i64 x.mode,.int .i64 x.uid,.int .i64 x.gid,.string x.owner,.string x.group,.int .i64 x.mtime,.string x.link,.slice x.da x.data.length x.dc] 45)=W6:=⟨_,rfl⟩
   have L6:Hid (Below wr.heap.size wr W6):=by show Below _ _ _;rw[←hW6];exact bR.alloc lr _
   have B6:Hid (ax W6 wr.heap.size x.cells):=by show ax _ _ _;rw[←hW6];exact ax.new wr x.cells _
   have A6:=ae (A5.out.step L6.out)
   have HW6:=ae hW6
   clear hW6
   go_upto_region 11 with(fail)
   rw[HW6.out]
   clear HW6 hix e0 e1 e2 e3 e4 e5 e6 e7 e8 e9 L6
   have b0:=B6.out.cell 0 _ rfl
   have b1:=B6.out.cell 1 _ rfl
   have b2:=B6.out.cell 2 _ rfl
   have b3:=B6.out.cell 3 _ rfl
   have b4:=B6.out.cell 4 _ rfl
   have b5:=B6.out.cell 5 _ rfl
   have b6:=B6.out.cell 6 _ rfl
   have b7:=B6.out.cell 7 _ rfl
   have b8:=B6.out.cell 8 _ rfl
   have b9:=B6.out.cell 9 _ rfl
   have k1:=A6.out.aud.blk.cell 1 _ rfl
   obtain⟨W7,hput,hm7,hg7⟩:=A6.out.ent.put Tryz.underlying54 (by unfold maxLen;omega) x.path (by have:=SX.out.path;unfold maxLen;omega) x.val
   have A7:=ae (A6.out.put hg7 hm7)
   unfold am.val at hput
   clear hm7 hg7 A5 A6 B6
   go_wp2_with fail
   go_roundw
   case rel=>exact⟨k+1,n1+1,by omega,by go_num,by omega,by rw[NX.out];exact A7.out⟩
   case measure=>simp[intOf];omega
  have hlt2:¬ (k:Int)<(tree.length:Int):=by omega
  have A6:Hid (ww w wr w.heap.size ab fmt m1 m2 [] n1 (nz tree)):=by
   show ww _ _ _ _ _ _ _ _ _ _
   have h:=A5.out
   rw[tL (by omega)] at h
   exact h
  have N1:Hid (n1≤4096):=by have:=TL.out;show _≤_;omega
  clear A5 hlt hn1
  obtain⟨W7,hW7⟩:∃ W7,wr.alloc (.map #[] 0)=W7:=⟨_,rfl⟩
  have L7:Hid (Below wr.heap.size wr W7):=by show Below _ _ _;rw[←hW7];exact bR.alloc lr _
  have M7:Hid (aX W7 wr.heap.size 0 (qO [])):=by show aX _ _ _ _;rw[←hW7];exact aX.made wr
  have A7:=ae (A6.out.step L7.out)
  have O7:Hid (ab<wr.heap.size):=A6.out.aud.blk.sz
  have HW7:=ae hW7
  clear hW7
  go_wp2_with fail
  rw[HW7.out]
  clear HW7 L7 A6
  generalize wr.heap.size=m3 at M7 O7 ⊢
  have D7:Hid (Hm w W7 ab fmt m1 m2 m3 [] n1 tree (bL (db.take 0)) 0):=⟨A7.out,M7.out,O7.out,z0,z0,fun x=>by simp[bL]⟩
  clear A7 M7 O7
  go_loopw [68] (fun i wr=>∃ (k n2:Nat) (ks:List cl),k≤db.length∧i=.int .i64 k∧Hid (Hm w wr ab fmt m1 m2 m3 ks n1 tree (bL (db.take k)) n2)) (fun i _=>db.length-(intOf i).toNat)
  case atStart=>exact⟨0,0,[],z0,rfl,D7⟩
  case round=>
   obtain⟨k,n2,ks,hk,rfl,D8⟩:=hrel
   clear D7
   by_cases hlt:k<db.length
   case pos=>
    have hlt2:(k:Int)<(db.length:Int):=by omega
    obtain⟨p,hp⟩:∃ p,db[k]?=some p:=⟨_,gG hlt⟩
    obtain⟨b,off,hA,hel⟩:=(HD.out.below D8.out.au.bel).row.elem oP k p hp
    have hix:=fun W=>aI (T:=22) (E:=39) (sz:=9) (c:=cd) Tryz.underlying22 rfl Tryz.sizeOf39 hA hlt W
    have e0:=hel 0 _ rfl
    have e1:=hel 1 _ rfl
    have e2:=hel 2 _ rfl
    have e3:=hel 3 _ rfl
    have e4:=hel 4 _ rfl
    have e5:=hel 5 _ rfl
    have e6:=hel 6 _ rfl
    have e7:=hel 7 _ rfl
    have e8:=hel 8 _ rfl
    simp only[Nat.add_zero] at e0
    have hpm:=gM hp
    have PF:Hid (Rd w 8 p.fa p.files.length (p.files.flatMap av.cells)):=(HD.out.all p hpm).files
    have PW:=ae (HW.out p hpm)
    have PN:Hid (bL (db.take (k+1))=bL (db.take k)++p.files):=wy hp
    have hpl:p.files.length≤10000:=by have h:=um db (k+1);rw[PN.out,List.length_append] at h;omega
    clear hp hA hel hpm
    obtain⟨W8,hW8⟩:∃ W8,wr.alloc (.cells #[.string p.nm,.string p.ver,.string p.ar,.string p.sm,.slice p.na p.needs.length p.nc,.slice p.ba p.bars.length p.bc,.slice p.ga p.gives.length p.gc,.slice p.fa p.files.length p.fc,.slice p.sa p.scripts.length p.sc] 39)=W8:=⟨_,rfl⟩
    have L8:Hid (Below wr.heap.size wr W8):=by show Below _ _ _;rw[←hW8];exact bR.alloc lr _
    have B8:Hid (ax W8 wr.heap.size p.cells):=by show ax _ _ _;rw[←hW8];exact ax.new wr p.cells _
    have HW8:=ae hW8
    clear hW8
    go_upto_region 17 with(fail)
    rw[HW8.out]
    clear HW8 hix e0 e1 e2 e3 e4 e5 e6 e7 e8
    have q7:=B8.out.cell 7 _ rfl
    have D9:Hid (Hm w W8 ab fmt m1 m2 m3 ks n1 tree (bL (db.take k)++p.files.take 0) n2):=by show Hm _ _ _ _ _ _ _ _ _ _ _ _;rw[List.take_zero,List.append_nil];exact D8.out.step L8.out
    clear D8 L8
    go_wp2_with fail
    go_loopw [75] (fun i wr=>∃ (j n2:Nat) (ks:List cl),j≤p.files.length∧i=.int .i64 j∧Hid (Hm w wr ab fmt m1 m2 m3 ks n1 tree (bL (db.take k)++p.files.take j) n2)) (fun i _=>p.files.length-(intOf i).toNat)
    case atStart=>exact⟨0,n2,ks,z0,rfl,D9⟩
    case round=>
     obtain⟨j,n3,ks2,hj,rfl,D10⟩:=hrel
     clear D9 q7 B8
     by_cases hlj:j<p.files.length
     case neg=>
      have hlj2:¬ (j:Int)<(p.files.length:Int):=by omega
      have D11:Hid (Hm w wr ab fmt m1 m2 m3 ks2 n1 tree (bL (db.take (k+1))) n3):=by
       show Hm _ _ _ _ _ _ _ _ _ _ _ _
       have h:=D10.out
       rw[tL (l:=p.files) (by omega)] at h
       rw[PN.out];exact h
      clear D10
      go_wp2_with fail
      go_roundw
      case rel=>exact⟨k+1,n3,ks2,by omega,by go_num,D11⟩
      case measure=>simp[intOf];omega
     have hlj2:(j:Int)<(p.files.length:Int):=by omega
     obtain⟨f,hf⟩:∃ f,p.files[j]?=some f:=⟨_,gG hlj⟩
     obtain⟨b,off,hA,hel⟩:=(PF.out.below D10.out.au.bel).elem iD j f hf
     have hix:=fun W=>aI (T:=36) (E:=42) (sz:=8) (c:=p.fc) Tryz.underlying36 rfl Tryz.sizeOf42 hA hlj W
     have e0:=hel 0 _ rfl
     have e1:=hel 1 _ rfl
     have e2:=hel 2 _ rfl
     have e3:=hel 3 _ rfl
     have e4:=hel 4 _ rfl
     have e5:=hel 5 _ rfl
     have e6:=hel 6 _ rfl
     have e7:=hel 7 _ rfl
     simp only[Nat.add_zero] at e0
     have FP:Hid (f.path.size≤1000000):=Hn PW.out (gM hf)
     have FN:Hid (bL (db.take k)++p.files.take (j+1)=(bL (db.take k)++p.files.take j)++[f]):=by show _=_;rw[List.take_add_one,hf,List.append_assoc];rfl
     have LB:Hid ((bL (db.take k)++p.files.take j).length≤10000):=by
      show _≤_
      have h:=um db (k+1)
      rw[PN.out,List.length_append] at h
      rw[List.length_append,List.length_take]
      omega
     clear hf hA hel
     obtain⟨L,hL⟩:∃ L,bL (db.take k)++p.files.take j=L:=⟨_,rfl⟩
     rw[hL] at D10 FN LB
     clear hL
     obtain⟨W9,hW9⟩:∃ W9,wr.alloc (.cells #[.string f.path,.int .i64 f.kind,.int .i64 f.mode,.string f.owner,.string f.group,.string f.link,.string f.sum,.bool f.conf] 42)=W9:=⟨_,rfl⟩
     have L9:Hid (Below wr.heap.size wr W9):=by show Below _ _ _;rw[←hW9];exact bR.alloc lr _
     have B9:Hid (ax W9 wr.heap.size f.cells):=by show ax _ _ _;rw[←hW9];exact ax.new wr f.cells _
     have HW9:=ae hW9
     clear hW9
     have OM:Hid (m3<wr.heap.size):=D10.out.fm.lt
     have D11:=ae (D10.out.step L9.out)
     go_upto_region 20 with(fail)
     rw[HW9.out]
     clear HW9 hix e0 e1 e2 e3 e4 e5 e6 e7 L9 D10
     have g0:=B9.out.cell 0 _ rfl
     have g1:=B9.out.cell 1 _ rfl
     have g2:=B9.out.cell 2 _ rfl
     have g3:=B9.out.cell 3 _ rfl
     have g4:=B9.out.cell 4 _ rfl
     have g5:=B9.out.cell 5 _ rfl
     have g6:=B9.out.cell 6 _ rfl
     have g7:=B9.out.cell 7 _ rfl
     obtain⟨W10,hput,hm10,hg10⟩:=D11.out.fm.put Tryz.underlying58 (by have:=D11.out.len;have:=LB.out;unfold maxLen;omega) f.path (by have:=FP.out;unfold maxLen;omega) (.agg #[.string f.path,.int .i64 f.kind,.int .i64 f.mode,.string f.owner,.string f.group,.string f.link,.string f.sum,.bool f.conf])
     have A10:=ae (D11.out.au.far hg10 D11.out.ord)
     have M10:Hid (aX W10 m3 (n3+1) (qO (L++[f]))):=by show aX _ _ _ _;rw[Hj];exact hm10
     have B10:=ae (B9.out.grownC hg10 (by have:=OM.out;omega))
     have DL:=ae D11.out.len
     have DK:=ae D11.out.kl
     have DO:=ae D11.out.ord
     have DM:=ae D11.out.mem
     clear hm10 hg10 D11
     have k0:=B10.out.cell 0 _ rfl
     have k1:=B10.out.cell 1 _ rfl
     have k2:=B10.out.cell 2 _ rfl
     have k3:=B10.out.cell 3 _ rfl
     have k4:=B10.out.cell 4 _ rfl
     have k5:=B10.out.cell 5 _ rfl
     have k6:=B10.out.cell 6 _ rfl
     have k7:=B10.out.cell 7 _ rfl
     go_wp2_with fail
     clear g0 g1 g2 g3 g4 g5 g6 g7 k0 k1 k2 k3 k4 k5 k6 k7 hput B10 B9
     refine(Kr ab m1 m2 n1 fmt ks2 Ae tree f w W10 HT.out A10.out.bel (by have:=A10.out.ord;omega) A10.out.ord.2.2.2 FM.out A10.out.aud A10.out.ent HE.out FT.out HS.out FP.out A10.out.aud.map.lt).mono ?_;rintro e w11 ⟨rfl,⟨ks3,h1,h2,h3⟩,hg⟩
     have D12:Hid (Hm w w11 ab fmt m1 m2 m3 ks3 n1 tree (L++[f]) (n3+1)):=by
      refine⟨A10.out.noted hg h1,M10.out.kept hg ?_,DO.out,?_,?_,fun x=>?_⟩
      ·have:=A10.out.ord;have:=DO.out;intro e;injection e with e;omega
      ·have:=DL.out;rw[List.length_append];simp;omega
      ·have:=DK.out;rw[List.length_append];simp;omega
      ·rw[h2,DM.out];simp only[List.mem_append,List.mem_singleton,or_and_right,exists_or,exists_eq_left]
     clear h1 h2 h3 hg A10 M10 DL DK DO DM
     go_wp2_with fail
     go_roundw
     case rel=>exact⟨j+1,n3+1,ks3,by omega,by go_num,by rw[FN.out];exact D12.out⟩
     case measure=>simp[intOf];omega
   have hlt2:¬ (k:Int)<(db.length:Int):=by omega
   have D9:Hid (Hm w wr ab fmt m1 m2 m3 ks n1 tree (bL db) n2):=by
    show Hm _ _ _ _ _ _ _ _ _ _ _ _
    have h:=D8.out
    rw[tL (l:=db) (by omega)] at h
    exact h
   clear D8
   go_wp2_with fail
   refine(xV Ad cd db wr (HD.out.below D9.out.au.bel) hl (by omega) HPF.out).mono ?_;rintro e w12 ⟨Ao,co,out,rfl,hrow,hnm,hown,hb12⟩
   have D12:=ae (D9.out.step hb12)
   have OR:=ae hrow
   have ON:=ae hnm
   have OW:=ae hown
   have OL:Hid (out.length≤30000):=by have h:=hown.length_le;rw[List.length_map] at h;show _≤_;omega
   clear hrow hnm hown hb12 D9
   have E12:Hid (qP w w12 ab fmt m1 m2 m3 ks n1 tree (bL db) n2 (P4 fmt (bL db) tree (out.take 0)) (20000+0)):=by
    refine⟨D12.out.au,D12.out.fm,D12.out.ord,?_,fun x=>?_⟩
    ·have:=D12.out.kl;omega
    ·rw[D12.out.mem];unfold P4;simp
   clear D12
   have hol:out.length≤30000:=OL.out
   go_wp2_with fail
   go_loopw [90] (fun i wr=>∃ (k:Nat) (ks:List cl),k≤out.length∧i=.int .i64 k∧Hid (Rd wr 2 Ao out.length (out.flatMap me.cells))∧Hid (qP w wr ab fmt m1 m2 m3 ks n1 tree (bL db) n2 (P4 fmt (bL db) tree (out.take k)) (20000+k))) (fun i _=>out.length-(intOf i).toNat)
   case atStart=>exact⟨0,ks,z0,rfl,OR,E12⟩
   case round=>
    obtain⟨k4,ks4,hk4,rfl,OR4,E4⟩:=hrel
    clear E12 OR
    by_cases hlt4:k4<out.length
    case pos=>
     have hlt5:(k4:Int)<(out.length:Int):=by omega
     obtain⟨o,ho⟩:∃ o,out[k4]?=some o:=⟨_,gG hlt4⟩
     obtain⟨b,off,hA,hel⟩:=OR4.out.elem Lb k4 o ho
     have hix:=fun W=>aI (T:=60) (E:=63) (sz:=2) (c:=co) Tryz.underlying60 rfl Tryz.sizeOf63 hA hlt4 W
     have e0:=hel 0 _ rfl
     have e1:=hel 1 _ rfl
     simp only[Nat.add_zero] at e0
     unfold me.sl at e1
     have OP:Hid (o.path.size≤maxLen):=AL HPF.out o.path ((OW.out.mem o.path).1 (List.mem_map.2 ⟨o.pair,List.mem_map.2 ⟨o,gM ho,rfl⟩,rfl⟩))
     have ON4:Hid (out.take (k4+1)=out.take k4++[o]):=by show _=_;rw[List.take_add_one,ho];rfl
     clear ho hA hel
     obtain⟨W13,hW13⟩:∃ W13,wr.alloc (.cells #[.string o.path,.slice o.na o.names.length o.nc] 63)=W13:=⟨_,rfl⟩
     have L13:Hid (Below wr.heap.size wr W13):=by show Below _ _ _;rw[←hW13];exact bR.alloc lr _
     have B13:Hid (ax W13 wr.heap.size [.string o.path,.slice o.na o.names.length o.nc]):=by show ax _ _ _;rw[←hW13];exact ax.new wr [.string o.path,.slice o.na o.names.length o.nc] _
     have HW13:=ae hW13
     clear hW13
     have E13:=ae (E4.out.step L13.out)
     have OR13:=ae (OR4.out.below L13.out)
     go_upto_region 27 with(fail)
     rw[HW13.out]
     clear HW13 hix e0 e1 L13 E4 OR4
     have n0:=B13.out.cell 0 _ rfl
     have n1':=B13.out.cell 1 _ rfl
     by_cases hn:1<o.names.length
     case neg=>
      have hn2:¬ (1:Int)<(o.names.length:Int):=by omega
      have E14:Hid (qP w W13 ab fmt m1 m2 m3 ks4 n1 tree (bL db) n2 (P4 fmt (bL db) tree (out.take (k4+1))) (20000+(k4+1))):=by
       show qP _ _ _ _ _ _ _ _ _ _ _ _ _ _
       rw[ON4.out]
       exact E13.out.same (MQ (fun h=>hn h.1)) (by omega)
      clear hn E13
      go_wp2_with fail
      go_roundw
      case rel=>exact⟨k4+1,ks4,by omega,by go_num,OR13,E14⟩
      case measure=>simp[intOf];omega
     have hn2:(1:Int)<(o.names.length:Int):=by omega
     obtain⟨y,hy,hyk⟩:=Et (bL db) o.path
     have lk:(Instr.lookup 58 (.map (some m3)) (.string o.path) false).run Tryz.prog W13=.ok (.agg #[.string y.path,.int .i64 y.kind,.int .i64 y.mode,.string y.owner,.string y.group,.string y.link,.string y.sum,.bool y.conf]) W13:=by
      have h:=E13.out.fm.look Tryz.underlying58 ul o.path OP.out
      rw[hy] at h;exact h
     have hfd:=fun W=>Dv y W
     have HN:=ae hn
     by_cases hk2:y.kind=2
     case pos=>
      have q2:(y.kind != 2)=false:=by simp[hk2]
      have E14:Hid (qP w W13 ab fmt m1 m2 m3 ks4 n1 tree (bL db) n2 (P4 fmt (bL db) tree (out.take (k4+1))) (20000+(k4+1))):=by
       show qP _ _ _ _ _ _ _ _ _ _ _ _ _ _
       rw[ON4.out]
       exact E13.out.same (MQ (fun h=>h.2 (hyk.symm.trans hk2))) (by omega)
      clear hn hy hyk hk2 E13
      go_wp2_with fail
      go_roundw
      case rel=>exact⟨k4+1,ks4,by omega,by go_num,OR13,E14⟩
      case measure=>simp[intOf];omega
     have q2:(y.kind != 2)=true:=by simpa using hk2
     have PY:=ae (fun x=>NQ (fmt:=fmt) (tree:=tree) (O:=out.take k4) hn (by rw[←hyk];exact hk2) x)
     clear hn hy hyk hk2
     go_wp2_with fail
     refine(jC ab m1 m2 fmt ks4 o.path 6 _ E13.out.au.aud).mono ?_;rintro e w14 ⟨rfl,h1,h2⟩
     have E14:Hid (qP w w14 ab fmt m1 m2 m3 (kI ks4 (o.path,6)) n1 tree (bL db) n2 (P4 fmt (bL db) tree (out.take (k4+1))) (20000+(k4+1))):=by
      show qP _ _ _ _ _ _ _ _ _ _ _ _ _ _
      rw[ON4.out]
      exact E13.out.noted h2 h1 PY.out
     have OR14:=ae (OR13.out.noted E13.out.au.aud.map h2)
     clear h1 h2 E13 OR13 n0 n1' B13 lk hfd
     go_wp2_with fail
     go_roundw
     case rel=>exact⟨k4+1,_,by omega,by go_num,OR14,E14⟩
     case measure=>simp[intOf];omega
    have hlt5:¬ (k4:Int)<(out.length:Int):=by omega
    have E5:Hid (qP w wr ab fmt m1 m2 m3 ks4 n1 tree (bL db) n2 (P5 fmt db tree (tree.take 0)) (50000+0)):=by
     refine E4.out.same (fun x=>?_) (by have:=OL.out;omega)
     rw[tL (l:=out) (by omega),NS OW.out]
     unfold P5
     simp
    clear E4 OR4 OW ON
    have htl2:tree.length≤4096:=TL.out
    go_wp2_with fail
    go_loopw [112] (fun i wr=>∃ (k:Nat) (ks:List cl),k≤tree.length∧i=.int .i64 k∧Hid (qP w wr ab fmt m1 m2 m3 ks n1 tree (bL db) n2 (P5 fmt db tree (tree.take k)) (50000+k))) (fun i _=>tree.length-(intOf i).toNat)
    case atStart=>exact⟨0,ks4,z0,rfl,E5⟩
    case round=>
     obtain⟨k5,ks5,hk5,rfl,E6⟩:=hrel
     clear E5
     by_cases hlt6:k5<tree.length
     case pos=>
      have hlt7:(k5:Int)<(tree.length:Int):=by omega
      obtain⟨x,hx⟩:∃ x,tree[k5]?=some x:=⟨_,gG hlt6⟩
      obtain⟨b,off,hA,hel⟩:=(HE.out.below E6.out.au.bel).row.elem fi k5 x hx
      have hix:=fun W=>aI (T:=23) (E:=45) (sz:=10) (c:=ce) Tryz.underlying23 rfl Tryz.sizeOf45 hA hlt6 W
      have e0:=hel 0 _ rfl
      have e1:=hel 1 _ rfl
      have e2:=hel 2 _ rfl
      have e3:=hel 3 _ rfl
      have e4:=hel 4 _ rfl
      have e5:=hel 5 _ rfl
      have e6:=hel 6 _ rfl
      have e7:=hel 7 _ rfl
      have e8:=hel 8 _ rfl
      have e9:=hel 9 _ rfl
      simp only[Nat.add_zero] at e0
      have SX:=ae (HS.out x (gM hx))
      have XN:Hid (tree.take (k5+1)=tree.take k5++[x]):=by show _=_;rw[List.take_add_one,hx];rfl
      clear hx hA hel
      obtain⟨W6,hW6⟩:∃ W6,wr.alloc (.cells #[.string x.path,.int .i64 x.kind,.int .i64 x.mode,.int .i64 x.uid,.int .i64 x.gid,.string x.owner,.string x.group,.int .i64 x.mtime,.string x.link,.slice x.da x.data.length x.dc] 45)=W6:=⟨_,rfl⟩
      have L6:Hid (Below wr.heap.size wr W6):=by show Below _ _ _;rw[←hW6];exact bR.alloc lr _
      have B6:Hid (ax W6 wr.heap.size x.cells):=by show ax _ _ _;rw[←hW6];exact ax.new wr x.cells _
      have E7:=ae (E6.out.step L6.out)
      have HW6:=ae hW6
      clear hW6
      go_upto_region 33 with(fail)
      rw[HW6.out]
      clear HW6 hix e0 e1 e2 e3 e4 e5 e6 e7 e8 e9 L6 E6
      have b0:=B6.out.cell 0 _ rfl
      obtain⟨y,hy,hyk⟩:=Et (bL db) x.path
      obtain⟨tf,htf⟩:∃ t,(qO (bL db) x.path).isSome=t:=⟨_,rfl⟩
      have lk:(Instr.lookup 58 (.map (some m3)) (.string x.path) true).run Tryz.prog W6=.ok (.tuple #[.agg #[.string y.path,.int .i64 y.kind,.int .i64 y.mode,.string y.owner,.string y.group,.string y.link,.string y.sum,.bool y.conf],.bool tf]) W6:=by
       have h:=E7.out.fm.look_ok Tryz.underlying58 ul x.path (by have:=SX.out.path;unfold maxLen;omega)
       rw[hy,htf] at h;exact h
      have HTF:=ae htf
      clear hy hyk htf
      obtain⟨W15,hW15⟩:∃ W15,W6.alloc (.cells #[.string y.path,.int .i64 y.kind,.int .i64 y.mode,.string y.owner,.string y.group,.string y.link,.string y.sum,.bool y.conf] 42)=W15:=⟨_,rfl⟩
      have L15:Hid (Below W6.heap.size W6 W15):=by show Below _ _ _;rw[←hW15];exact bR.alloc lr _
      have E15:=ae (E7.out.step L15.out)
      have B15:=ae (B6.out.below L15.out)
      have HW15:=ae hW15
      clear hW15
      go_upto_region 35 with(fail)
      rw[HW15.out]
      clear HW15 b0 lk L15 E7 B6
      cases tf
      case true=>
       have LF:ek (bL db) x.path≠none:=fun h=>by have h2:=HTF.out;unfold qO at h2;rw[h] at h2;exact absurd h2 (by decide)
       have E16:Hid (qP w W15 ab fmt m1 m2 m3 ks5 n1 tree (bL db) n2 (P5 fmt db tree (tree.take (k5+1))) (50000+(k5+1))):=by
        show qP _ _ _ _ _ _ _ _ _ _ _ _ _ _
        rw[XN.out]
        exact E15.out.same (OQ LF) (by omega)
       clear LF E15 B15
       go_wp2_with fail
       go_roundw
       case rel=>exact⟨k5+1,ks5,by omega,by go_num,E16⟩
       case measure=>simp[intOf];omega
      have LF:Hid (ek (bL db) x.path=none):=by
       have h2:=HTF.out
       unfold qO at h2
       show _=_
       cases h:ek (bL db) x.path with
       | none=>rfl
       | some z=>rw[h] at h2;exact absurd h2 (by simp)
      go_wp2_with fail
      refine(Hk rb ro cr _ W15 ((E15.out.au.bel.cell (p:=⟨rb,ro,none⟩) HRL.out).trans HR.out)).mono ?_;rintro e w16 ⟨rfl,hb16⟩
      have E16:=ae (E15.out.step hb16)
      have B16:=ae (B15.out.below hb16)
      clear hb16 E15 B15
      have b0:=B16.out.cell 0 _ rfl
      go_wp2_with fail
      clear b0
      refine(jC ab m1 m2 fmt ks5 x.path 5 _ E16.out.au.aud).mono ?_;rintro e w17 ⟨rfl,h1,h2⟩
      have E17:Hid (qP w w17 ab fmt m1 m2 m3 (kI ks5 (x.path,5)) n1 tree (bL db) n2 (P5 fmt db tree (tree.take (k5+1))) (50000+(k5+1))):=by
       show qP _ _ _ _ _ _ _ _ _ _ _ _ _ _
       rw[XN.out]
       exact E16.out.noted h2 h1 (NU LF.out)
      clear h1 h2 E16 B16
      go_wp2_with fail
      go_roundw
      case rel=>exact⟨k5+1,_,by omega,by go_num,E17⟩
      case measure=>simp[intOf];omega
     have hlt7:¬ (k5:Int)<(tree.length:Int):=by omega
     have E8:Hid (qP w wr ab fmt m1 m2 m3 ks5 n1 tree (bL db) n2 (P5 fmt db tree tree) 60000):=by
      show qP _ _ _ _ _ _ _ _ _ _ _ _ _ _
      have h:=E6.out
      rw[tL (l:=tree) (by omega)] at h
      exact h.same (fun x=>Iff.rfl) (by omega)
     clear E6
     have k2:=E8.out.au.aud.blk.cell 2 _ rfl
     go_wp2_with fail
     refine(MT m2 wr).mono ?_;rintro e w' ⟨rfl,rfl⟩
     clear k2
     have L18:Hid (Below wr.heap.size wr (wr.alloc (.cells #[.map (some m2)] 55))):=bR.alloc lr _
     have E18:=ae (E8.out.step L18.out)
     have K18:Hid ((wr.alloc (.cells #[.map (some m2)] 55)).cell? ⟨wr.heap.size,0,none⟩=some (.map (some m2))):=by show _=_;simp
     have hsz:wr.heap.size<(wr.alloc (.cells #[.map (some m2)] 55)).heap.size:=by simp
     have HSF:=wT wr.heap.size m2 ks5 _ hsz K18.out E18.out.au.aud.map (by have:=E18.out.kl;omega)
     have ZW:Hid (w.heap.size<(wr.alloc (.cells #[.map (some m2)] 55)).heap.size):=E18.out.au.res.sz
     have ND:Hid ks5.Nodup:=by
      obtain⟨es,c,hE⟩:=E18.out.au.aud.map
      exact hE.ndk
     clear hsz
     go_wp2_with fail
     refine HSF.mono ?_;rintro e w19 ⟨A9,cap,ss,rfl,hP,hPw,hrow,hb19⟩
     have A19:=ae (E18.out.au.step hb19)
     have HP:=ae hP
     have HPW:=ae hPw
     have RD:=ae (cH hrow)
     have HNE:Hid (∀ b off sp,A9=some ⟨b,off,sp⟩→b≠w.heap.size):=by
      show ∀ _ _ _,_
      intro b off sp e
      subst e
      have h1:=(hrow.lt b rfl).1
      have h2:=ZW.out
      omega
     have HNE2:Hid (∀ b off sp,A9=some ⟨b,off,sp⟩→w.heap.size≤b):=by
      show ∀ _ _ _,_
      intro b off sp e
      subst e
      have h1:=(hrow.lt b rfl).1
      have h2:=ZW.out
      omega
     have KL:Hid (ks5.length≤100000):=by have:=E18.out.kl;show _≤_;omega
     have MM:=ae (fun x=>(E18.out.mem x).trans (NV x))
     clear hb19 hP hPw hrow HSF E8 E18 K18 L18
     have r0:w19.cell? ⟨w.heap.size,0,none⟩=some (.string ⟨#[]⟩):=A19.out.res.cell 0 _ rfl
     have r1:w19.cell? ⟨w.heap.size,1,none⟩=some (.string ⟨#[]⟩):=A19.out.res.cell 1 _ rfl
     have r2:w19.cell? ⟨w.heap.size,2,none⟩=some (.int .i64 0):=A19.out.res.cell 2 _ rfl
     have z0:=A19.out.res.free 0 (by decide)
     have z1:=A19.out.res.free 1 (by decide)
     have z2:=A19.out.res.free 2 (by decide)
     go_wp2_with fail
     refine bodyPost_ret (Dw rfl rfl (ax.put3 A19.out.res ⟨#[]⟩ ⟨#[]⟩ 0)) rfl ⟨A9,cap,ss,⟨#[]⟩,⟨#[]⟩,0,by rw[HP.out.length_eq];rfl,ak (ak (ak A19.out.bel lr _) lr _) lr _,?_,HNE2.out,AR.out,fun h=>absurd rfl h,fun _=>⟨⟨rfl,rfl⟩,FT.out,HP.out.nodup_iff.2 ND.out,HPW.out,fun x=>(HP.out.mem_iff).trans (MM.out x),by rw[HP.out.length_eq];exact KL.out⟩⟩
     rw[HP.out.length_eq]
     exact((RD.out.setOut HNE.out 0 _).setOut HNE.out 1 _).setOut HNE.out 2 _
end
end Go.Proofs.YtaohgmcbpafdeaaGreatDoor
