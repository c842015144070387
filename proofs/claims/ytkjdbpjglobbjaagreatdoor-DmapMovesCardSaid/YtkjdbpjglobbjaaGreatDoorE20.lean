/- A part of the proof of a law on dependencies in three formats. No condition. -/
import Derived.LaidEqlPtr
import Derived.Laws.StructEq
import Derived.MapKept
import Derived.Test.YtkjdbpjglobbjaaGreatDoorE17
set_option maxRecDepth 100000
set_option maxHeartbeats 20000000
set_option linter.unusedVariables false
set_option linter.unusedSimpArgs false
namespace Go.Proofs.YtkjdbpjglobbjaaGreatDoor
section
open Go.RowKit Go.Deep
def fL:Nat→LU→List (LU)
 | 0,_=>[[]]
 | f+1,l=>if aJ l=[] then [[]] else aY l::fL f (bw l)
theorem gp (r:LU):aJ (32::r)=aJ r:=by unfold aJ;rw[jy (by rfl)];rfl
theorem dX {c:UInt8}{r:LU}(h:(c==32)=false):aJ (c::r)=c::r:=by
 unfold aJ;rw[eh (show bf c=false from h)];rfl
theorem Fx (f:Nat)(r:LU):fL f (32::r)=fL f r:=by
 cases f with
 | zero=>rfl
 | succ f=>unfold fL aY bw;rw[gp]
theorem L9 (f:Nat):fL (f+1) []=[[]]:=rfl
theorem Fy (f:Nat)(s:BA)(k:Nat)(h:k<s.size)(d:UInt8)(hd:s[k]=d)(h32:(d==32)=false):fL (f+1) ((bl s).drop k)=((bl s).drop k).take (rA ((bl s).drop k))::fL f ((bl s).drop (k+rA ((bl s).drop k))):=by
 have hs:aJ ((bl s).drop k)=(bl s).drop k:=by rw[eG s k h,hd];exact dX h32
 show(if aJ ((bl s).drop k)=[] then [[]] else aY ((bl s).drop k)::fL f (bw ((bl s).drop k)))=_
 rw[if_neg (by rw[hs,eG s k h];simp)]
 unfold aY bw
 rw[hs,List.drop_drop]
theorem RF (s:BA)(k:Nat)(h:k<s.size)(d:UInt8)(hd:s[k]=d):rA ((bl s).drop k)=if Ox d then 1 else jb 0 ((bl s).drop k):=by
 rw[eG s k h,hd];rfl
theorem Ma (s:BA)(k:Nat)(h:k<s.size)(d:UInt8)(hd:s[k]=d)(h32:(d==32)=false):0<rA ((bl s).drop k)∧k+rA ((bl s).drop k)≤s.size:=by
 have hs:aJ ((bl s).drop k)=(bl s).drop k:=by rw[eG s k h,hd];exact dX h32
 have h1:=wC (l:=(bl s).drop k) (by rw[hs,eG s k h];simp)
 rw[hs] at h1
 have h2:=C8 ((bl s).drop k)
 rw[List.length_drop,af] at h2
 exact⟨h1,by omega⟩
structure AV where
 text:BA
 at_:Nat
def AV.cells (x:AV):List Value:=[.string x.text,.int .i64 x.at_]
theorem RG (x:AV):x.cells.length=2:=rfl
theorem Mb:(Tryz.prog.info? 154).map (fun i=>(i.zero,i.size,i.bytes))=some (some (.agg #[.string ⟨#[]⟩,.int .i64 0]),2,24):=by kernel_rfl
structure AW (w wr:World) (xs:List AV) (A:Option Addr) (n c:Nat):Prop where
 len:xs.length=n
 row:wr.ownsRow w.heap.size 154 2 (.slice A n c) n (xs.flatMap AV.cells)
 bel:Below w.heap.size w wr
theorem AW.grow {w wr w2:World}{xs:List AV}{A A1:Option Addr}{n c c1:Nat}{o:Obj}{x:AV}(h:AW w wr xs A n c)
  (hr:w2.ownsRow w.heap.size 154 2 (.slice A1 (n+1) c1) (n+1) (xs.flatMap AV.cells++x.cells))
  (hg:(wr.alloc o).grownBy w2 (Value.slice A n c).ownBlock):AW w w2 (xs++[x]) A1 (n+1) c1:=by
 refine⟨by simp[h.len],by rw[List.flatMap_append];simpa using hr,?_⟩
 exact(h.bel.alloc h.bel.size o).grown hg (by have:=h.bel.size;simp;omega) (fun j hj=>by have:=(h.row.lt j hj).1;omega)
theorem kI (w:World)(t:TypeId)(x y:Value):jQ (w.alloc (.cells #[x,y] t)) (w.heap.size+1) 2 (some ⟨w.heap.size,0,none⟩) 1 [x,y]:=by
 refine⟨rfl,fun _=>⟨_,rfl,by simp,fun j u hu=>?_⟩⟩
 match j,hu with
 | 0,hu=>simp at hu;subst hu;simp[Addr.add]
 | 1,hu=>simp at hu;subst hu;simp[Addr.add]
 | j+2,hu=>simp at hu
def RH (s:BA)(w:World)(e:Ending)(w':World):Prop:=
 ∃ (A:Option Addr) (n c:Nat) (xs:List AV),e=.returned (.slice A n c)∧AW w w' xs A n c∧n≤s.size+1∧xs.map (fun x=>bl x.text)=fL (s.size+1) (bl s)∧∀ x∈xs,x.text.size≤s.size
theorem IF (s:BA)(w:World)(hs:s.size≤4294967280):
  Calls Tryz.prog 86 #[.string s] w (RH s w):=by
 obtain⟨i0,hi0,hz0,hz1,hz2⟩:=info_parts Mb
 go_enter Tryz.func86,Tryz.ntmps86
 go_wp2_with fail
 go_loopw [3,4] (fun l i wr=>∃ (k f n c:Nat) (A:Option Addr) (xs:List AV),l=.slice A n c∧i=.int .i64 k∧k≤s.size∧n≤k∧Hid (AW w wr xs A n c)∧Hid (xs.map (fun x=>bl x.text)++fL (f+1) ((bl s).drop k)=fL (s.size+1) (bl s))∧Hid (s.size-k≤f)∧Hid (∀ x∈xs,x.text.size≤s.size)) (fun _ i _=>s.size-(intOf i).toNat)
 case atStart=>exact⟨0,s.size,0,0,none,[],rfl,rfl,z0,lr,⟨rfl,World.ownsRow_nil _ _ _ _,bR⟩,rfl,lr,by simp[Hid]⟩
 case round=>
  obtain⟨k,f,n,c,A,xs,rfl,rfl,hk,hn,HR,HT,HF,HZ⟩:=hrel
  by_cases hlt:k<s.size
  ·obtain⟨d,hd⟩:∃ d:UInt8,s[k]=d:=⟨_,rfl⟩
   cases h32:(d==32) with
   | true=>
    have e32:((d.toNat:Int)==32)=true:=(dB d 32).trans h32
    have HT2:Hid (xs.map (fun x=>bl x.text)++fL (f+1) ((bl s).drop (k+1))=fL (s.size+1) (bl s)):=by
     have h1:=HT.out;rw[eG s k hlt,hd,show d=32 by simpa using h32,Fx] at h1;exact h1
    have HF2:Hid (s.size-(k+1)≤f):=by have:=HF.out;show _≤_;omega
    clear h32
    go_wp2_with fail
    go_roundw
    case rel=>exact⟨k+1,f,n,c,A,xs,rfl,by go_num,by omega,by omega,HR,HT2,HF2,HZ⟩
    case measure=>simp[intOf];omega
   | false=>
    have e32:((d.toNat:Int)==32)=false:=(dB d 32).trans h32
    obtain⟨hl1,hl2⟩:=Ma s k hlt d hd h32
    have TA:=ae (Fy (f-1) s k hlt d hd h32)
    have TB:=ae (Fy f s k hlt d hd h32)
    have LA:=ae (RF s k hlt d hd)
    obtain⟨m,hm⟩:∃ m,k+rA ((bl s).drop k)=m:=⟨_,rfl⟩
    have HM:=ae hm
    rw[hm] at TA TB hl2
    have hkm:k<m:=by omega
    clear hm hl1
    obtain⟨b1,hb1⟩:∃ b1,((d.toNat:Int) != 40)=b1:=⟨_,rfl⟩
    obtain⟨b2,hb2⟩:∃ b2,((d.toNat:Int) != 41)=b2:=⟨_,rfl⟩
    have HBR:Hid (Ox d=!(b1&&b2)):=by
     show _=_;rw[←hb1,←hb2,bne,bne,show((d.toNat:Int)==40)=(d==40) from dB d 40,show((d.toNat:Int)==41)=(d==41) from dB d 41];unfold Ox;simp
    obtain⟨bp,hbp⟩:∃ bp,(b1&&b2)=bp:=⟨_,rfl⟩
    have HBP:=ae hbp
    clear hbp
    go_upto_region 7 with(fail)
    go_cut [27] (fun v wx=>v=.bool bp∧wr=wx)
    case first=>
     cases b1 with
     | false=>
      have E:Hid (bp=false):=HBP.out.symm
      go_wp2_with fail
      go_meet
      exact⟨by rw[E.out],rfl⟩
     | true=>
      have E:Hid (bp=b2):=HBP.out.symm
      go_wp2_with fail
      go_meet
      exact⟨by rw[E.out],rfl⟩
    case rest=>
    obtain⟨rfl,rfl⟩:=hcut
    clear hb1 hb2
    go_upto_if 27 with(fail)
    go_cut [5] (fun v wx=>v=.int .i64 m∧wr=wx)
    case first=>
     have hPE:=Df s k wr (by omega) hs
     cases bp with
     | false=>
      have E:Hid (m=k+1):=by have h1:=HM.out;rw[LA.out,HBR.out,HBP.out] at h1;exact h1.symm
      go_wp2_with fail
      go_meet
      exact⟨by rw[E.out];rfl,rfl⟩
     | true=>
      have E:k+jb 0 ((bl s).drop k)=m:=by have h1:=HM.out;rw[LA.out,HBR.out,HBP.out] at h1;exact h1
      rw[E] at hPE
      clear E
      go_wp2_with fail
      refine hPE.mono ?_;rintro e w' ⟨rfl,rfl⟩
      go_wp2_with fail
      go_meet
      exact⟨rfl,rfl⟩
    case rest=>
    obtain⟨rfl,rfl⟩:=hcut
    clear HBR LA h32
    obtain⟨Y,hY⟩:∃ Y,s.extract k m=Y:=⟨_,rfl⟩
    have HYB:Hid (bl Y=((bl s).drop k).take (rA ((bl s).drop k))):=by show _=_;rw[←hY,kv];congr 1;have:=HM.out;omega
    have HYZ:Hid (Y.size≤s.size):=by show _≤_;rw[←af,HYB.out,List.length_take,List.length_drop,af];omega
    have HT2:Hid ((xs++[(⟨Y,k⟩:AV)]).map (fun x=>bl x.text)++fL (f-1+1) ((bl s).drop m)=fL (s.size+1) (bl s)):=by
     have h1:=HT.out;have hf:=HF.out
     have ef:f-1+1=f:=by omega
     have h2:=TA.out
     rw[ef] at h2
     have h3:fL (f+1) ((bl s).drop k)=((bl s).drop k).take (rA ((bl s).drop k))::fL f ((bl s).drop m):=TB.out
     show _=_
     rw[ef,←h1,h3,List.map_append,List.append_assoc];simp[HYB.out]
    have HF2:Hid (s.size-m≤f-1):=by have:=HF.out;show _≤_;omega
    have HZ2:Hid (∀ x∈xs++[(⟨Y,k⟩:AV)],x.text.size≤s.size):=by
     intro x hx
     rcases List.mem_append.1 hx with hx | hx
     ·exact HZ.out x hx
     ·obtain rfl:=List.mem_singleton.1 hx;exact HYZ.out
    have hnn:n≤4294967280:=by omega
    have hkm1:(k:Int)≤(m:Int):=by omega
    have hkm2:(m:Int)≤(s.size:Int):=by omega
    go_wp2_with (at_builtin;refine ak _ rfl _ _ _ rfl w.heap.size 154 i0 _ 2 24 Tryz.underlying148 hi0 hz0 hz1 hz2 rfl (by omega) (.slice A n c) n _ rfl (HR.out.row.alloc _) (wr.heap.size+1) (some ⟨wr.heap.size,0,none⟩) 1 1 [.string Y,.int .i64 k] rfl (kI wr _ _ _) (by simp[Value.oneCell']) (by simp only[maxLen];omega) (by omega) (by simp;have:=HR.out.bel.size;omega) ?_;intro v1 w3 o1 g1 a1)
    obtain⟨A3,c3,rfl⟩:=aG o1
    have R3:=ae (HR.out.grow (x:=⟨Y,k⟩) o1 g1)
    clear o1 g1 a1
    go_wp2_with fail
    go_roundw
    case rel=>exact⟨m,f-1,n+1,c3,A3,xs++[⟨Y,k⟩],rfl,rfl,hl2,by omega,R3,HT2,HF2,HZ2⟩
    case measure=>simp[intOf];omega
  ·have HT2:Hid ((xs++[(⟨⟨#[]⟩,s.size⟩:AV)]).map (fun x=>bl x.text)=fL (s.size+1) (bl s)):=by
    have h1:=HT.out;rw[lZ s k hlt,L9] at h1;show _=_;rw[←h1,List.map_append];rfl
   have HZ2:Hid (∀ x∈xs++[(⟨⟨#[]⟩,s.size⟩:AV)],x.text.size≤s.size):=by
    intro x hx
    rcases List.mem_append.1 hx with hx | hx
    ·exact HZ.out x hx
    ·obtain rfl:=List.mem_singleton.1 hx;exact z0
   have hnn:n≤4294967280:=by omega
   go_wp2_with (at_builtin;refine ak _ rfl _ _ _ rfl w.heap.size 154 i0 _ 2 24 Tryz.underlying148 hi0 hz0 hz1 hz2 rfl (by omega) (.slice A n c) n _ rfl (HR.out.row.alloc _) (wr.heap.size+1) (some ⟨wr.heap.size,0,none⟩) 1 1 [.string ⟨#[]⟩,.int .i64 s.size] rfl (kI wr _ _ _) (by simp[Value.oneCell']) (by simp only[maxLen];omega) (by omega) (by simp;have:=HR.out.bel.size;omega) ?_;intro v1 w3 o1 g1 a1)
   obtain⟨A3,c3,rfl⟩:=aG o1
   have R3:=ae (HR.out.grow (x:=⟨⟨#[]⟩,s.size⟩) o1 g1)
   clear o1 g1 a1
   go_wp2_with fail
   go_ret
   exact⟨A3,n+1,c3,xs++[⟨⟨#[]⟩,s.size⟩],rfl,R3.out,by omega,HT2.out,HZ2.out⟩
end
section
open Go.RowKit Go.MapKept
def aj.key (t:aj):Value:=.agg #[.pointer t.ka,.int .i64 t.kids.length]
theorem oL:(Tryz.prog.info? 70).map (fun i=>(i.zero,i.size,i.bytes))=some (some (.agg #[.string ⟨#[]⟩,.string ⟨#[]⟩,.int .i64 0,.string ⟨#[]⟩,.slice none 0 0]),5,80):=by kernel_rfl
theorem nO {w:World}{lo:Nat}{bad:Option Nat}{t:aj}(h:ce w lo bad t)(hk:t.kids≠[]):∃ g cur,t.ka=some ⟨g,0,none⟩∧w.heap[g]?=some (.cells cur 70 (0,0))∧lo≤g:=by
 rcases h.row.2 with⟨_,h0⟩ | ⟨g,cap,cur,hv,h1,h2,_⟩
 ·exact absurd (List.length_eq_zero_iff.1 h0) hk
 ·injection hv with hv
  exact⟨g,cur,hv,h2,h1⟩
theorem PE (w:World)(d:Nat)(a:Addr):(Op.equalIn (d+1) 212 (.pointer (some a)) (.pointer (some a))).run Tryz.prog w=.ok true w:=by
 obtain⟨i0,hi0,_,hz,_⟩:=info_parts oL
 simp[Op.equalIn,run_underlying Tryz.underlying212,sizeOf,typeInfo,hi0,run_sameAddr_same]
theorem MJ (w:World)(d:Nat){a b:Addr}{ca cb:Array Value}{ta tb:TypeId}(hne:a≠b)(ha:w.heap[a.block]?=some (.cells ca ta (0,0)))(hb:w.heap[b.block]?=some (.cells cb tb (0,0))):(Op.equalIn (d+1) 212 (.pointer (some a)) (.pointer (some b))).run Tryz.prog w=.ok false w:=by
 obtain⟨i0,hi0,_,hz,_⟩:=info_parts oL
 simp[Op.equalIn,run_underlying Tryz.underlying212,sizeOf,typeInfo,hi0,hz,run_sameAddr_other w hne ha hb]
theorem MK {w:World}{t u:aj}(ht:ce w 0 none t)(hu:ce w 0 none u)(kt:t.kids≠[])(ku:u.kids≠[]):
  (Op.equal 214 t.key u.key).run Tryz.prog w=.ok (decide (t.ka=u.ka∧t.kids.length=u.kids.length)) w:=by
 obtain⟨g1,c1,e1,h1,_⟩:=nO ht kt
 obtain⟨g2,c2,e2,h2,_⟩:=nO hu ku
 unfold aj.key Op.equal Op.maxDepth
 rw[e1,e2]
 by_cases hg:g1=g2
 ·subst hg
  have hp:=fun d=>PE w d ⟨g1,0,none⟩
  simp[go_sem,hp]
  by_cases hl:t.kids.length=u.kids.length
  ·simp[hl]
  ·simp[hl];omega
 ·have hp:=fun d=>MJ w d (a:=⟨g1,0,none⟩) (b:=⟨g2,0,none⟩) (fun e=>hg (by injection e)) h1 h2
  simp[go_sem,hp,hg]
theorem oM (w:World)(em:Bool)(t:aj):(Instr.checkKey em 10000 214 t.key).run Tryz.prog w=.ok () w:=by
 have h:∀ d:Nat,(Instr.checkKey em (d+1+1) 214 t.key).run Tryz.prog w=.ok () w:=by
  intro d
  unfold aj.key
  simp[Instr.checkKey,run_underlying Tryz.underlying214,go_sem]
 exact h 9998
theorem ML (w:World){t u:aj}(h1:t.ka=u.ka)(h2:t.kids.length=u.kids.length):(Instr.keyThatStays t.key u.key).run Tryz.prog w=.ok u.key w:=by
 have:t.key=u.key:=by unfold aj.key;rw[h1,h2]
 rw[this]
 unfold aj.key
 simp[Instr.keyThatStays,Instr.sameBits]
theorem oN (w:World)(k:Value)(es:List MapEntry):(Instr.findKey 214 k es).run Tryz.prog w=(Instr.findAsking 214 k es 0).run Tryz.prog w:=by
 cases es with
 | nil=>simp[Instr.findKey,Instr.findAsking,Instr.findNow,run_underlying Tryz.underlying214]
 | cons e r=>simp[Instr.findKey,Instr.findNow,Instr.sameNow,run_underlying Tryz.underlying214]
structure fY (w:World) (b:Nat) (ms:List (aj×Nat)):Prop where
 ex:∃ es clock,w.heap[b]?=some (.map es clock)∧es.toList.map (fun e=>(e.key,e.val))=ms.map (fun p=>(p.1.key,Value.int .i64 p.2))
 own:∀ p∈ms,ce w 0 none p.1∧p.1.kids≠[]
theorem ye {w:World}{t:aj}(ht:ce w 0 none t)(hk:t.kids≠[]):∀ (es:List MapEntry)(ms:List (aj×Nat))(i:Nat),es.map (fun e=>(e.key,e.val))=ms.map (fun p=>(p.1.key,Value.int .i64 p.2))→(∀ p∈ms,ce w 0 none p.1∧p.1.kids≠[]) →
  ((Instr.findAsking 214 t.key es i).run Tryz.prog w=.ok none w) ∨
  ∃ j p,(Instr.findAsking 214 t.key es i).run Tryz.prog w=.ok (some (i+j,Value.int .i64 p.2)) w∧ms[j]?=some p∧p.1.ka=t.ka∧p.1.kids=t.kids
 | [],ms,i,_,_=>.inl (by simp[Instr.findAsking])
 | e::es,[],i,h,_=>by simp at h
 | e::es,p::ms,i,h,ho=>by
  simp only[List.map_cons,List.cons.injEq,Prod.mk.injEq] at h
  obtain⟨⟨h1,h2⟩,h3⟩:=h
  obtain⟨o1,o2⟩:=ho p (by simp)
  have hq:=MK ht o1 hk o2
  by_cases he:t.ka=p.1.ka∧t.kids.length=p.1.kids.length
  ·right
   refine⟨0,p,?_,rfl,he.1.symm,(My ht.rd p.1 o1.rd he.1 he.2).symm⟩
   rw[dT he] at hq
   simp[Instr.findAsking,h1,h2,hq]
  ·rw[dF he] at hq
   rcases ye ht hk es ms (i+1) h3 (fun q hq=>ho q (by simp[hq])) with h4 | ⟨j,q,h4,h5,h6⟩
   ·left;simp[Instr.findAsking,h1,hq,h4]
   ·right;exact⟨j+1,q,by simp[Instr.findAsking,h1,hq,h4,Nat.add_assoc,Nat.add_comm 1 j],by simpa using h5,h6⟩
theorem fY.look {w:World}{b:Nat}{ms:List (aj×Nat)}(h:fY w b ms){t:aj}(ht:ce w 0 none t)(hk:t.kids≠[]):
  ((Instr.lookup 179 (.map (some b)) t.key true).run Tryz.prog w=.ok (.tuple #[.int .i64 0,.bool false]) w) ∨
  ∃ p∈ms,p.1.kids=t.kids∧(Instr.lookup 179 (.map (some b)) t.key true).run Tryz.prog w=.ok (.tuple #[.int .i64 p.2,.bool true]) w:=by
 obtain⟨es,clock,hb,hm⟩:=h.ex
 rcases ye ht hk es.toList ms 0 hm h.own with h1 | ⟨j,p,h1,h2,h3,h4⟩
 ·left;simp[Instr.lookup,run_underlying Tryz.underlying179,MapKept.run_getObj_map hb,oM,oN,h1,go_sem]
 ·right;exact⟨p,gM h2,h4,by simp[Instr.lookup,run_underlying Tryz.underlying179,MapKept.run_getObj_map hb,oM,oN,h1]⟩
theorem ce.off {w:World}{lo b:Nat}{bad:Option Nat}{t:aj}{es:Array MapEntry}{c:Nat}(h:ce w lo bad t)(hb:w.heap[b]?=some (.map es c)):ce w lo (some b) t:=by
 induction h with
 | mk t row ne _ ih=>
  refine .mk t row (fun g hg e=>?_) ih
  injection e with e;subst e
  rcases row.2 with⟨hv,_⟩ | ⟨g',cap,cur,hv,_,h2,_⟩
  ·rw[hv] at hg;simp[Value.ownBlock] at hg
  ·rw[hv] at hg;simp[Value.ownBlock] at hg;subst hg;rw[hb] at h2;simp at h2
theorem fY.tree {w w':World}{lo b:Nat}{ms:List (aj×Nat)}{t:aj}(h:fY w b ms)(ht:ce w lo none t)(hg:w.grownBy w' (some b)):ce w' lo none t:=by
 obtain⟨es,clock,hb,_⟩:=h.ex
 exact((ht.off hb).grown hg).any
theorem fY.below {w w':World}{b:Nat}{ms:List (aj×Nat)}(h:fY w b ms)(hb:Below w.heap.size w w'):fY w' b ms:=by
 obtain⟨es,clock,h1,h2⟩:=h.ex
 exact⟨⟨es,clock,(hb.block b (Array.getElem?_eq_some_iff.1 h1).1).trans h1,h2⟩,fun p hp=>⟨(h.own p hp).1.low hb,(h.own p hp).2⟩⟩
theorem fY.lt {w:World}{b:Nat}{ms:List (aj×Nat)}(h:fY w b ms):b<w.heap.size:=by
 obtain⟨es,clock,h1,h2⟩:=h.ex;exact(Array.getElem?_eq_some_iff.1 h1).1
theorem fY.made (w:World):fY (w.alloc (.map #[] 0)) w.heap.size []:=⟨⟨#[],0,heap_alloc_new w _,by simp⟩,by simp⟩
theorem fY.put {w:World}{b:Nat}{ms:List (aj×Nat)}(h:fY w b ms){t:aj}(ht:ce w 0 none t)(hk:t.kids≠[])(v:Nat):
  ∃ w' ms',(Instr.mapUpdate 179 (.map (some b)) t.key (.int .i64 v)).run Tryz.prog w=.ok () w'∧fY w' b ms'∧w.grownBy w' (some b)∧w'.heap.size=w.heap.size ∧
   (∀ p∈ms',(∃ q∈ms,q=p)∨p.1.kids=t.kids∧p.2=v)∧(∀ p∈ms,∃ q∈ms',q.1=p.1)∧∃ q∈ms',q.1.kids=t.kids:=by
 obtain⟨es,clock,hb,hm⟩:=h.ex
 have hlt:=h.lt
 have grow:∀ o,w.grownBy { w with heap:=w.heap.setIfInBounds b o } (some b):=fun o=>⟨rfl,rfl,rfl,by simp,fun k hk hne=>(heap_set hb).2 k (fun e=>hne (by rw[e]))⟩
 rcases ye ht hk es.toList ms 0 hm h.own with h1 | ⟨j,p,h1,h2,h3,h4⟩
 ·refine⟨{ w with heap:=w.heap.setIfInBounds b (.map (es.push { key:=t.key,val:=.int .i64 v,born:=clock }) (clock+1)) },ms++[(t,v)],?_,⟨⟨_,_,(heap_set hb).1,by simp[hm]⟩,fun p hp=>?_⟩,grow _,by simp,fun p hp=>?_,fun p hp=>⟨p,by simp[hp],rfl⟩,⟨(t,v),by simp,rfl⟩⟩
  ·simp[Instr.mapUpdate,run_underlying Tryz.underlying179,MapKept.run_getObj_map hb,oM,oN,h1,MapKept.run_setObj_map _ hb]
  ·rcases List.mem_append.1 hp with hp | hp
   ·exact⟨h.tree (h.own p hp).1 (grow _),(h.own p hp).2⟩
   ·obtain rfl:=List.mem_singleton.1 hp
    exact⟨h.tree ht (grow _),hk⟩
  ·rcases List.mem_append.1 hp with hp | hp
   ·exact .inl ⟨p,hp,rfl⟩
   ·obtain rfl:=List.mem_singleton.1 hp
    exact .inr ⟨rfl,rfl⟩
 ·simp only[Nat.zero_add] at h1
  obtain⟨hj,hpj⟩:=gS h2
  have hlen:es.size=ms.length:=by have:=congrArg List.length hm;simpa using this
  have hek:es[j]?.map (fun e=>e.key)=some p.1.key:=by
   have:=congrArg (fun l=>l[j]?) hm
   simp[h2] at this
   obtain⟨e,he,h5,h6⟩:=this
   rw[he];simp[h5]
  have hst:=ML w (t:=p.1) (u:=t) h3 (by rw[h4])
  have hkey:p.1.key=t.key:=by unfold aj.key;rw[h3,h4]
  refine⟨{ w with heap:=w.heap.setIfInBounds b (.map (es.modify j fun e=>{ e with key:=t.key,val:=.int .i64 v }) clock) },ms.set j (p.1,v),?_,⟨⟨_,_,(heap_set hb).1,?_⟩,fun q hq=>?_⟩,grow _,by simp,fun q hq=>?_,fun q hq=>?_,⟨(p.1,v),List.mem_set hj _,h4⟩⟩
  ·simp[Instr.mapUpdate,run_underlying Tryz.underlying179,MapKept.run_getObj_map hb,oM,oN,h1,MapKept.run_setObj_map _ hb,hek,hst]
  ·apply List.ext_getElem?
   intro i
   have hi:=congrArg (fun l=>l[i]?) hm
   simp only[List.getElem?_map,Array.getElem?_toList] at hi
   simp only[List.getElem?_map,Array.getElem?_toList,Array.getElem?_modify,List.getElem?_set]
   by_cases hij:j=i
   ·subst hij
    obtain⟨e,he⟩:∃ e,es[j]?=some e:=⟨_,Array.getElem?_eq_getElem (by rw[hlen];exact hj)⟩
    simp[hj,he,hkey]
   ·simp[hij,hi]
  ·rcases List.mem_or_eq_of_mem_set hq with hq | rfl
   ·exact⟨h.tree (h.own q hq).1 (grow _),(h.own q hq).2⟩
   ·exact⟨h.tree (h.own p (gM h2)).1 (grow _),(h.own p (gM h2)).2⟩
  ·rcases List.mem_or_eq_of_mem_set hq with hq | rfl
   ·exact .inl ⟨q,hq,rfl⟩
   ·exact .inr ⟨h4,rfl⟩
  ·obtain⟨i,hi⟩:=List.getElem?_of_mem hq
   by_cases hij:j=i
   ·subst hij;rw[h2] at hi;injection hi with hi;subst hi
    exact⟨(p.1,v),List.mem_set hj _,rfl⟩
   ·exact⟨q,gM (i:=i) (by rw[List.getElem?_set_ne hij];exact hi),rfl⟩
theorem uv (f:aj→Nat):∀ (m:Nat)(l:List (aj×Nat)),(∀ i,i<m→∃ p∈l,f p.1=i)→m≤l.length
 | 0,_,_=>z0
 | m+1,l,h=>by
  obtain⟨p,hp,hf⟩:=h m (by omega)
  have h1:=uv f m (l.filter fun q=>decide (f q.1≠m)) (fun i hi=>by
   obtain⟨q,hq,hfq⟩:=h i (by omega)
   exact⟨q,List.mem_filter.2 ⟨hq,by simp;omega⟩,hfq⟩)
  have h2:(l.filter fun q=>decide (f q.1≠m)).length<l.length:=List.length_filter_lt_length_iff_exists.2 ⟨p,hp,by simp[hf]⟩
  omega
end
end Go.Proofs.YtkjdbpjglobbjaaGreatDoor
