/- A part of the proof. -/
import Derived.Test.YtaohgmcbpafdeaaGreatDoorA25
set_option maxRecDepth 100000
set_option maxHeartbeats 20000000
set_option linter.unusedVariables false
set_option linter.unusedSimpArgs false
namespace Go.Proofs.YtaohgmcbpafdeaaGreatDoor
section
open Go.RowKit
inductive oN where
 | atom (name:LU) (op:Nat) (ver:LU)
 | node (op:LU) (kids:List oN)
def ie:Nat→LU→Nat
 | _,[]=>0
 | o,c::r=>if c==32 then 0 else if c==40 then ie (o+1) r+1 else if c==41 then (if o=0 then 0 else ie (o-1) r+1) else ie o r+1
def MF (c:UInt8):Bool:=c==40||c==41
def pp:LU→Nat
 | []=>0
 | c::r=>if MF c then 1 else ie 0 (c::r)
def aR (l:LU):LU:=(aH l).take (pp (aH l))
def aU (l:LU):LU:=(aH l).drop (pp (aH l))
theorem rf:∀ (l:LU)(o:Nat),ie o l≤l.length
 | [],_=>by simp[ie]
 | c::r,o=>by
  unfold ie
  have h1:=rf r (o+1)
  have h2:=rf r (o-1)
  have h3:=rf r o
  repeat' split
  all_goals simp
  all_goals omega
theorem xB (l:LU):pp l≤l.length:=by
 cases l with
 | nil=>simp[pp]
 | cons c r=>
  show(if MF c then 1 else ie 0 (c::r))≤(c::r).length
  split
  ·simp
  ·exact rf _ _
theorem Gf {l r:LU}{c:UInt8}(h:aH l=c::r):(c==32)=false:=by
 have h1:=Fx l
 rw[h,lR] at h1
 cases hc:aO c with
 | true=>rw[hc] at h1;simp at h1
 | false=>exact hc
theorem ti {l:LU}(h:aH l≠[]):0<pp (aH l):=by
 cases hs:aH l with
 | nil=>exact absurd hs h
 | cons c r=>
  have h0:=Gf hs
  show 0<(if MF c then 1 else ie 0 (c::r))
  split
  ·omega
  ·rename_i hb
   have h1:(c==40)=false:=by unfold MF at hb;cases h:(c==40) with
    | false=>rfl
    | true=>rw[h] at hb;simp at hb
   have h2:(c==41)=false:=by unfold MF at hb;cases h:(c==41) with
    | false=>rfl
    | true=>rw[h] at hb;simp at hb
   show 0<(if c==32 then 0 else if c==40 then ie (0+1) r+1 else if c==41 then (if 0=0 then 0 else ie (0-1) r+1) else ie 0 r+1)
   rw[h0,h1,h2];simp
theorem Jp {l:LU}(h:aH l≠[]):(aU l).length<l.length:=by
 have h1:=ti h
 have h2:=xB (aH l)
 have h3:=dC l
 unfold aU;rw[List.length_drop];omega
theorem pq {l:LU}:aR l=[]↔aH l=[]:=by
 constructor
 ·intro h
  by_cases h0:aH l=[]
  ·exact h0
  ·have h1:=ti h0
   have h2:=xB (aH l)
   unfold aR at h
   have:=congrArg List.length h
   rw[List.length_take,List.length_nil] at this;omega
 ·intro h;unfold aR;rw[h];rfl
def Cu (p:LU):Nat:=if p=[60] then 1 else if p=[60,61] then 2 else if p=[61] then 3 else if p=[62,61] then 4 else if p=[62] then 5 else 0
def eY:LU:=[97,110,100]
def mG:LU:=[111,114]
def mH:LU:=[105,102]
def be:LU:=[117,110,108,101,115,115]
def dR:LU:=[119,105,116,104]
def bu:LU:=[119,105,116,104,111,117,116]
def qd:LU:=[101,108,115,101]
def eI (p:LU):Bool:=decide (p=eY∨p=mG∨p=mH∨p=be∨p=dR∨p=bu)
def aG (op:LU)(n:Nat)(p:LU):Bool:=
 if n=1 then eI p else decide ((op=eY∨op=mG)∧p=op∨(op=mH∨op=be)∧n=2∧p=qd)
def jy (name:LU)(op n:Nat)(l:LU):Option (oN×LU×Nat):=
 if aR l=[]∨aR l=[40]∨aR l=[41] then none else if cG 2 (bC (aR l))=0 then some (.atom name op (aR l),aU l,n) else none
def lm (name:LU)(n:Nat)(l:LU):Option (oN×LU×Nat):=
 if Cu (aR l)=0 then some (.atom name 0 [],l,n) else jy name (Cu (aR l)) n (aU l)
def im (n:Nat)(l:LU):Option (oN×LU×Nat):=
 if n=64 then none else if dq (aR l) then lm (aR l) (n+1) (aU l) else none
mutual
def gx:Nat→Nat→Nat→LU→Option (oN×LU×Nat)
 | 0,_,_,_=>none
 | f+1,deep,n,l=>
  if aR l=[]∨aR l=[41] then none
  else if aR l=[40] then (if deep=32 then none else jS f (deep+1) n [] [] (aU l))
  else im n l
def jS:Nat→Nat→Nat→List oN→LU→LU→Option (oN×LU×Nat)
 | 0,_,_,_,_,_=>none
 | f+1,deep,n,acc,op,l=>match gx f deep n l with
  | none=>none
  | some (k,l1,n1)=>
   if aR l1=[41]∧acc≠[] then some (.node op (acc++[k]),aU l1,n1)
   else if aG op (acc.length+1) (aR l1) then jS f deep n1 (acc++[k]) (if acc=[] then aR l1 else op) (aU l1)
   else none
end
def fp (l:LU):Option oN:=match gx (2*l.length+2) 0 0 l with
 | none=>none
 | some (d,r,_)=>if aR r=[] then some d else none
def OZ:Nat→LU
 | 1=>[60]
 | 2=>[60,61]
 | 3=>[61]
 | 4=>[62,61]
 | 5=>[62]
 | _=>[]
def LJ (op:LU)(i:Nat):LU:=if 2≤i∧(op=mH∨op=be) then qd else op
mutual
def dS:oN→LU
 | .atom nm op v=>if op=0 then nm else nm++[32]++OZ op++[32]++v
 | .node op ks=>[40]++fQ op 0 ks++[41]
def fQ (op:LU):Nat→List oN→LU
 | _,[]=>[]
 | i,k::r=>(if i=0 then [] else [32]++LJ op i++[32])++dS k++fQ op (i+1) r
end
def iW (l:LU):Bool:=!l.isEmpty&&(match fp l with | some d=>decide (dS d=l) | none=>false)
end
section
open Go.RowKit Go.Deep
theorem LO (s:BA)(k o:Nat)(h:k<s.size)(d:UInt8)(hd:s[k]=d):ie o ((bl s).drop k)=if d==32 then 0 else if d==40 then ie (o+1) ((bl s).drop (k+1))+1 else if d==41 then (if o=0 then 0 else ie (o-1) ((bl s).drop (k+1))+1) else ie o ((bl s).drop (k+1))+1:=by
 rw[cX s k h,hd];rfl
theorem Gh (s:BA)(k o:Nat)(h:¬ k<s.size):ie o ((bl s).drop k)=0:=by rw[jO s k h];rfl
theorem xE (s:BA)(p:Nat)(w:World)(hp:p≤s.size)(hs:s.size≤4294967280):
  Calls Tryz.prog 194 #[.string s,.int .i64 p] w fun e w'=>e=.returned (.int .i64 ((p+ie 0 ((bl s).drop p):Nat):Int))∧w=w':=by
 obtain⟨R,hR⟩:∃ R,p+ie 0 ((bl s).drop p)=R:=⟨_,rfl⟩
 rw[hR]
 have HR0:=ae hR
 clear hR
 go_enter Tryz.func194,Tryz.ntmps194
 go_wp2_with fail
 go_loop [1,4,5] (fun i s4 o=>∃ k n:Nat,i=.int .i64 k∧s4=.int .i64 0∧o=.int .i64 n∧k≤s.size∧n≤k∧Hid (k+ie n ((bl s).drop k)=R)) (fun i _ _=>s.size-(intOf i).toNat)
 case atStart=>exact⟨p,0,rfl,rfl,rfl,hp,z0,HR0⟩
 case round=>
  clear HR0
  obtain⟨k,n,rfl,rfl,rfl,hk,hn,HE⟩:=hrel
  by_cases hlt:k<s.size
  ·obtain⟨d,hd⟩:∃ d:UInt8,s[k]=d:=⟨_,rfl⟩
   have ST:=ae (LO s k n hlt d hd)
   have d0:decide ((k:Int)<(s.size:Int))=true:=dT (by omega)
   cases h32:(d==32) with
   | true=>
    have e32:((d.toNat:Int) != 32)=false:=by rw[bne,show((d.toNat:Int)==32)=true from(dB d 32).trans h32];rfl
    have E:Hid (k=R):=by have h1:=HE.out;rw[ST.out,h32] at h1;exact h1
    clear h32
    go_wp2_with fail
    go_ret
    exact⟨ap (by rw[←E.out]),rfl⟩
   | false=>
    have e32:((d.toNat:Int) != 32)=true:=by rw[bne,show((d.toNat:Int)==32)=false from(dB d 32).trans h32];rfl
    cases h40:(d==40) with
    | true=>
     have e40:((d.toNat:Int)==40)=true:=(dB d 40).trans h40
     have HN:Hid ((k+1)+ie (n+1) ((bl s).drop (k+1))=R):=by have h1:=HE.out;rw[ST.out,h32,h40] at h1;simp at h1;show _=_;omega
     clear h32 h40
     go_wp2_with fail
     go_round
     case rel=>exact⟨k+1,n+1,by go_num,rfl,by go_num,by omega,by omega,HN⟩
     case measure=>simp[intOf];omega
    | false=>
     have e40:((d.toNat:Int)==40)=false:=(dB d 40).trans h40
     cases h41:(d==41) with
     | true=>
      have e41:((d.toNat:Int)==41)=true:=(dB d 41).trans h41
      by_cases n0:n=0
      ·have E:Hid (k=R):=by have h1:=HE.out;rw[ST.out,h32,h40,h41,if_neg (by decide),if_neg (by decide),if_pos rfl,if_pos n0] at h1;exact h1
       subst n0
       clear h32 h40 h41
       go_wp2_with fail
       go_ret
       exact⟨ap (by rw[←E.out]),rfl⟩
      ·have HN:Hid ((k+1)+ie (n-1) ((bl s).drop (k+1))=R):=by have h1:=HE.out;rw[ST.out,h32,h40,h41,if_neg (by decide),if_neg (by decide),if_pos rfl,if_neg n0] at h1;show _=_;omega
       have en:((n:Int)==0)=false:=by simp;omega
       clear h32 h40 h41
       go_wp2_with fail
       go_round
       case rel=>exact⟨k+1,n-1,by go_num,rfl,by congr 1;omega,by omega,by omega,HN⟩
       case measure=>simp[intOf];omega
     | false=>
      have e41:((d.toNat:Int)==41)=false:=(dB d 41).trans h41
      have HN:Hid ((k+1)+ie n ((bl s).drop (k+1))=R):=by have h1:=HE.out;rw[ST.out,h32,h40,h41,if_neg (by decide),if_neg (by decide),if_neg (by decide)] at h1;show _=_;omega
      clear h32 h40 h41
      go_wp2_with fail
      go_round
      case rel=>exact⟨k+1,n,by go_num,rfl,rfl,by omega,by omega,HN⟩
      case measure=>simp[intOf];omega
  ·have d0:decide ((k:Int)<(s.size:Int))=false:=dF (by omega)
   have E:Hid (k=R):=by have h1:=HE.out;rw[Gh s k n hlt] at h1;exact h1
   go_wp2_with fail
   go_ret
   exact⟨ap (by rw[←E.out]),rfl⟩
def dU:Nat→LU→List (LU)
 | 0,_=>[[]]
 | f+1,l=>if aH l=[] then [[]] else aR l::dU f (aU l)
theorem Cv (r:LU):aH (32::r)=aH r:=by unfold aH;rw[gH (by rfl)];rfl
theorem zD {c:UInt8}{r:LU}(h:(c==32)=false):aH (c::r)=c::r:=by
 unfold aH;rw[eP (show aO c=false from h)];rfl
theorem zE (f:Nat)(r:LU):dU f (32::r)=dU f r:=by
 cases f with
 | zero=>rfl
 | succ f=>unfold dU aR aU;rw[Cv]
theorem Gi (f:Nat):dU (f+1) []=[[]]:=rfl
theorem zF (f:Nat)(s:BA)(k:Nat)(h:k<s.size)(d:UInt8)(hd:s[k]=d)(h32:(d==32)=false):dU (f+1) ((bl s).drop k)=((bl s).drop k).take (pp ((bl s).drop k))::dU f ((bl s).drop (k+pp ((bl s).drop k))):=by
 have hs:aH ((bl s).drop k)=(bl s).drop k:=by rw[cX s k h,hd];exact zD h32
 show(if aH ((bl s).drop k)=[] then [[]] else aR ((bl s).drop k)::dU f (aU ((bl s).drop k)))=_
 rw[if_neg (by rw[hs,cX s k h];simp)]
 unfold aR aU
 rw[hs,List.drop_drop]
theorem LP (s:BA)(k:Nat)(h:k<s.size)(d:UInt8)(hd:s[k]=d):pp ((bl s).drop k)=if MF d then 1 else ie 0 ((bl s).drop k):=by
 rw[cX s k h,hd];rfl
theorem Gj (s:BA)(k:Nat)(h:k<s.size)(d:UInt8)(hd:s[k]=d)(h32:(d==32)=false):0<pp ((bl s).drop k)∧k+pp ((bl s).drop k)≤s.size:=by
 have hs:aH ((bl s).drop k)=(bl s).drop k:=by rw[cX s k h,hd];exact zD h32
 have h1:=ti (l:=(bl s).drop k) (by rw[hs,cX s k h];simp)
 rw[hs] at h1
 have h2:=xB ((bl s).drop k)
 rw[List.length_drop,ag] at h2
 exact⟨h1,by omega⟩
structure vZ where
 text:BA
 at_:Nat
def vZ.cells (x:vZ):LV:=[.string x.text,.int .i64 x.at_]
theorem LQ (x:vZ):x.cells.length=2:=rfl
theorem Gk:(Tryz.prog.info? 230).map (fun i=>(i.zero,i.size,i.bytes))=some (some (.agg #[.string ⟨#[]⟩,.int .i64 0]),2,24):=by kernel_rfl
structure we (w wr:World) (xs:List vZ) (A:OA) (n c:Nat):Prop where
 len:xs.length=n
 row:wr.ownsRow w.heap.size 230 2 (.slice A n c) n (xs.flatMap vZ.cells)
 bel:Below w.heap.size w wr
theorem we.grow {w wr w2:World}{xs:List vZ}{A A1:OA}{n c c1:Nat}{o:Obj}{x:vZ}(h:we w wr xs A n c)
  (hr:w2.ownsRow w.heap.size 230 2 (.slice A1 (n+1) c1) (n+1) (xs.flatMap vZ.cells++x.cells))
  (hg:(wr.alloc o).grownBy w2 (Value.slice A n c).ownBlock):we w w2 (xs++[x]) A1 (n+1) c1:=by
 refine⟨by simp[h.len],by rw[List.flatMap_append];simpa using hr,?_⟩
 exact(h.bel.alloc h.bel.size o).grown hg (by have:=h.bel.size;simp;omega) (fun j hj=>by have:=(h.row.lt j hj).1;omega)
theorem zG (w:World)(t:TypeId)(x y:Value):iF (w.alloc (.cells #[x,y] t)) (w.heap.size+1) 2 (some ⟨w.heap.size,0,none⟩) 1 [x,y]:=by
 refine⟨rfl,fun _=>⟨_,rfl,by simp,fun j u hu=>?_⟩⟩
 match j,hu with
 | 0,hu=>simp at hu;subst hu;simp[Addr.add]
 | 1,hu=>simp at hu;subst hu;simp[Addr.add]
 | j+2,hu=>simp at hu
def LR (s:BA)(w:World)(e:Ending)(w':World):Prop:=
 ∃ (A:OA) (n c:Nat) (xs:List vZ),e=.returned (.slice A n c)∧we w w' xs A n c∧n≤s.size+1∧xs.map (fun x=>bl x.text)=dU (s.size+1) (bl s)∧∀ x∈xs,x.text.size≤s.size
theorem Cw (s:BA)(w:World)(hs:s.size≤4294967280):
  Calls Tryz.prog 159 #[.string s] w (LR s w):=by
 obtain⟨i0,hi0,hz0,hz1,hz2⟩:=info_parts Gk
 go_enter Tryz.func159,Tryz.ntmps159
 go_wp2_with fail
 go_loopw [3,4] (fun l i wr=>∃ (k f n c:Nat) (A:OA) (xs:List vZ),l=.slice A n c∧i=.int .i64 k∧k≤s.size∧n≤k∧Hid (we w wr xs A n c)∧Hid (xs.map (fun x=>bl x.text)++dU (f+1) ((bl s).drop k)=dU (s.size+1) (bl s))∧Hid (s.size-k≤f)∧Hid (∀ x∈xs,x.text.size≤s.size)) (fun _ i _=>s.size-(intOf i).toNat)
 case atStart=>exact⟨0,s.size,0,0,none,[],rfl,rfl,z0,lr,⟨rfl,World.ownsRow_nil _ _ _ _,bR⟩,rfl,lr,by simp[Hid]⟩
 case round=>
  obtain⟨k,f,n,c,A,xs,rfl,rfl,hk,hn,HR,HT,HF,HZ⟩:=hrel
  by_cases hlt:k<s.size
  ·obtain⟨d,hd⟩:∃ d:UInt8,s[k]=d:=⟨_,rfl⟩
   cases h32:(d==32) with
   | true=>
    have e32:((d.toNat:Int)==32)=true:=(dB d 32).trans h32
    have HT2:Hid (xs.map (fun x=>bl x.text)++dU (f+1) ((bl s).drop (k+1))=dU (s.size+1) (bl s)):=by
     have h1:=HT.out;rw[cX s k hlt,hd,show d=32 by simpa using h32,zE] at h1;exact h1
    have HF2:Hid (s.size-(k+1)≤f):=by have:=HF.out;show _≤_;omega
    clear h32
    go_wp2_with fail
    go_roundw
    case rel=>exact⟨k+1,f,n,c,A,xs,rfl,by go_num,by omega,by omega,HR,HT2,HF2,HZ⟩
    case measure=>simp[intOf];omega
   | false=>
    have e32:((d.toNat:Int)==32)=false:=(dB d 32).trans h32
    obtain⟨hl1,hl2⟩:=Gj s k hlt d hd h32
    have TA:=ae (zF (f-1) s k hlt d hd h32)
    have TB:=ae (zF f s k hlt d hd h32)
    have LA:=ae (LP s k hlt d hd)
    obtain⟨m,hm⟩:∃ m,k+pp ((bl s).drop k)=m:=⟨_,rfl⟩
    have HM:=ae hm
    rw[hm] at TA TB hl2
    have hkm:k<m:=by omega
    clear hm hl1
    obtain⟨b1,hb1⟩:∃ b1,((d.toNat:Int) != 40)=b1:=⟨_,rfl⟩
    obtain⟨b2,hb2⟩:∃ b2,((d.toNat:Int) != 41)=b2:=⟨_,rfl⟩
    have HBR:Hid (MF d=!(b1&&b2)):=by
     show _=_;rw[←hb1,←hb2,bne,bne,show((d.toNat:Int)==40)=(d==40) from dB d 40,show((d.toNat:Int)==41)=(d==41) from dB d 41];unfold MF;simp
    obtain⟨bp,hbp⟩:∃ bp,(b1&&b2)=bp:=⟨_,rfl⟩
    have HBP:=ae hbp
    clear hbp
    go_upto_region 7 with(fail)
    go_cut [27] (fun v wx=>v=.bool bp∧wr=wx)
    case first=>
     cases b1 with
     | false=>
      have E:Hid (bp=false):=HBP.out.symm
      go_wp2_with fail
      go_meet
      exact⟨by rw[E.out],rfl⟩
     | true=>
      have E:Hid (bp=b2):=HBP.out.symm
      go_wp2_with fail
      go_meet
      exact⟨by rw[E.out],rfl⟩
    case rest=>
    obtain⟨rfl,rfl⟩:=hcut
    clear hb1 hb2
    go_upto_if 27 with(fail)
    go_cut [5] (fun v wx=>v=.int .i64 m∧wr=wx)
    case first=>
     have hPE:=xE s k wr (by omega) hs
     cases bp with
     | false=>
      have E:Hid (m=k+1):=by have h1:=HM.out;rw[LA.out,HBR.out,HBP.out] at h1;exact h1.symm
      go_wp2_with fail
      go_meet
      exact⟨by rw[E.out];rfl,rfl⟩
     | true=>
      have E:k+ie 0 ((bl s).drop k)=m:=by have h1:=HM.out;rw[LA.out,HBR.out,HBP.out] at h1;exact h1
      rw[E] at hPE
      clear E
      go_wp2_with fail
      refine hPE.mono ?_;rintro e w' ⟨rfl,rfl⟩
      go_wp2_with fail
      go_meet
      exact⟨rfl,rfl⟩
    case rest=>
    obtain⟨rfl,rfl⟩:=hcut
    clear HBR LA h32
    obtain⟨Y,hY⟩:∃ Y,s.extract k m=Y:=⟨_,rfl⟩
    have HYB:Hid (bl Y=((bl s).drop k).take (pp ((bl s).drop k))):=by show _=_;rw[←hY,iC];congr 1;have:=HM.out;omega
    have HYZ:Hid (Y.size≤s.size):=by show _≤_;rw[←ag,HYB.out,List.length_take,List.length_drop,ag];omega
    have HT2:Hid ((xs++[(⟨Y,k⟩:vZ)]).map (fun x=>bl x.text)++dU (f-1+1) ((bl s).drop m)=dU (s.size+1) (bl s)):=by
     have h1:=HT.out;have hf:=HF.out
     have ef:f-1+1=f:=by omega
     have h2:=TA.out
     rw[ef] at h2
     have h3:dU (f+1) ((bl s).drop k)=((bl s).drop k).take (pp ((bl s).drop k))::dU f ((bl s).drop m):=TB.out
     show _=_
     rw[ef,←h1,h3,List.map_append,List.append_assoc];simp[HYB.out]
    have HF2:Hid (s.size-m≤f-1):=by have:=HF.out;show _≤_;omega
    have HZ2:Hid (∀ x∈xs++[(⟨Y,k⟩:vZ)],x.text.size≤s.size):=by
     intro x hx
     rcases List.mem_append.1 hx with hx | hx
     ·exact HZ.out x hx
     ·obtain rfl:=List.mem_singleton.1 hx;exact HYZ.out
    have hnn:n≤4294967280:=by omega
    have hkm1:(k:Int)≤(m:Int):=by omega
    have hkm2:(m:Int)≤(s.size:Int):=by omega
    go_wp2_with (at_builtin;refine aD _ rfl _ _ _ rfl w.heap.size 230 i0 _ 2 24 Tryz.underlying224 hi0 hz0 hz1 hz2 rfl (by omega) (.slice A n c) n _ rfl (HR.out.row.alloc _) (wr.heap.size+1) (some ⟨wr.heap.size,0,none⟩) 1 1 [.string Y,.int .i64 k] rfl (zG wr _ _ _) (by simp[Value.oneCell']) (by simp only[maxLen];omega) (by omega) (by simp;have:=HR.out.bel.size;omega) ?_;intro v1 w3 o1 g1 a1)
    obtain⟨A3,c3,rfl⟩:=aP o1
    have R3:=ae (HR.out.grow (x:=⟨Y,k⟩) o1 g1)
    clear o1 g1 a1
    go_wp2_with fail
    go_roundw
    case rel=>exact⟨m,f-1,n+1,c3,A3,xs++[⟨Y,k⟩],rfl,rfl,hl2,by omega,R3,HT2,HF2,HZ2⟩
    case measure=>simp[intOf];omega
  ·have HT2:Hid ((xs++[(⟨⟨#[]⟩,s.size⟩:vZ)]).map (fun x=>bl x.text)=dU (s.size+1) (bl s)):=by
    have h1:=HT.out;rw[jO s k hlt,Gi] at h1;show _=_;rw[←h1,List.map_append];rfl
   have HZ2:Hid (∀ x∈xs++[(⟨⟨#[]⟩,s.size⟩:vZ)],x.text.size≤s.size):=by
    intro x hx
    rcases List.mem_append.1 hx with hx | hx
    ·exact HZ.out x hx
    ·obtain rfl:=List.mem_singleton.1 hx;exact z0
   have hnn:n≤4294967280:=by omega
   go_wp2_with (at_builtin;refine aD _ rfl _ _ _ rfl w.heap.size 230 i0 _ 2 24 Tryz.underlying224 hi0 hz0 hz1 hz2 rfl (by omega) (.slice A n c) n _ rfl (HR.out.row.alloc _) (wr.heap.size+1) (some ⟨wr.heap.size,0,none⟩) 1 1 [.string ⟨#[]⟩,.int .i64 s.size] rfl (zG wr _ _ _) (by simp[Value.oneCell']) (by simp only[maxLen];omega) (by omega) (by simp;have:=HR.out.bel.size;omega) ?_;intro v1 w3 o1 g1 a1)
   obtain⟨A3,c3,rfl⟩:=aP o1
   have R3:=ae (HR.out.grow (x:=⟨⟨#[]⟩,s.size⟩) o1 g1)
   clear o1 g1 a1
   go_wp2_with fail
   go_ret
   exact⟨A3,n+1,c3,xs++[⟨⟨#[]⟩,s.size⟩],rfl,R3.out,by omega,HT2.out,HZ2.out⟩
end
end Go.Proofs.YtaohgmcbpafdeaaGreatDoor
