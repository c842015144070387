/- A part of the proof. -/
import Derived.Test.YtkmjcombhjombaaGreatDoorK10
set_option maxRecDepth 100000
set_option maxHeartbeats 20000000
set_option linter.unusedVariables false
set_option linter.unusedSimpArgs false
namespace Go.Proofs.YtkmjcombhjombaaGreatDoor
variable{s:BA}{fmt:Int}{a l r:LU}{b c n:Nat}{A:Option Addr}{p:Prop}{x:UInt8}{w w' wr:World}
section
open Go.RowKit Go.Deep
theorem Hn:(Tryz.prog.info? 142).map (fun i=>(i.zero,i.size,i.bytes))=some (some (.agg #[.bool false,.string ⟨#[]⟩,.int .i64 0,.string ⟨#[]⟩]),4,48):=by kernel_rfl
structure Gr (w wr:World) (L:List mo) (A:Option Addr) (n c:Nat):Prop where
 len:L.length=n
 row:wr.ownsRow (w.heap.size+1) 142 4 (.slice A n c) n (L.flatMap mo.cells)
 ret:jh wr w.heap.size [.string ⟨#[]⟩,.int .i64 0,.int .i64 0]
 bel:Below w.heap.size w wr
theorem Gr.below {L:List mo}(h:Gr w wr L A n c)(hb:Below wr.heap.size wr w'):Gr w w' L A n c:=
 ⟨h.len,jp h.row hb,h.ret.below hb,jc h.bel hb⟩
theorem Gr.start (w:World):Gr w (w.alloc (.cells #[.string ⟨#[]⟩,.int .i64 0,.int .i64 0] 132)) [] none 0 0:=
 ⟨rfl,World.ownsRow_nil _ _ _ _,jh.new w _ _,bR.alloc lr _⟩
theorem Gr.grow {w2:World}{L:List mo}{A1:Option Addr}{c1:Nat}{o1 o2:Obj}{x:mo}(h:Gr w wr L A n c)
  (hr:w2.ownsRow (w.heap.size+1) 142 4 (.slice A1 (n+1) c1) (n+1) (L.flatMap mo.cells++x.cells))
  (hg:((wr.alloc o1).alloc o2).grownBy w2 (Value.slice A n c).ownBlock):Gr w w2 (L++[x]) A1 (n+1) c1:=by
 have I:=h.bel.size;have F:Below w.heap.size w ((wr.alloc o1).alloc o2):=(h.bel.alloc h.bel.size o1).alloc (by simp;omega) o2;have y:jh ((wr.alloc o1).alloc o2) w.heap.size [.string ⟨#[]⟩,.int .i64 0,.int .i64 0]:=(h.ret.alloc o1).alloc o2;refine⟨by simp[h.len],by rw[List.flatMap_append];simpa using hr,?_,?_⟩
 ·have D:w2.heap[w.heap.size]?=((wr.alloc o1).alloc o2).heap[w.heap.size]?:=hg.block _ y.sz (by intro e;have:=(h.row.lt _ e.symm).1;omega);refine⟨Nat.lt_of_lt_of_le y.sz hg.size,fun j u H=>?_,fun j z=>?_⟩
  ·exact(World.cell?_of_block (a:=⟨w.heap.size,j,none⟩) D).trans (y.cell j u H)
  ·exact(World.frozen?_of_block (a:=⟨w.heap.size,j,none⟩) D).trans (y.free j z)
 ·exact F.grown hg F.size (fun j z=>by have:=(h.row.lt j z).1;omega)
def On (r:Option (List mo))(w:World)(e:Ending)(w':World):Prop:=
 ∃ (A:Option Addr) (n c:Nat) (f:BA) (a code:Int),e=.returned (.tuple #[.slice A n c,nC f a code])/\Below w.heap.size w w' /\
  (match r with
   | some L=>code=0/\n=L.length/\w'.ownsRow w.heap.size 142 4 (.slice A n c) n (L.flatMap mo.cells)
   | none=>code≠0/\A=none/\n=0)
theorem Di (w:World)(t:TypeId)(a b c d:Value):oP (w.alloc (.cells #[a,b,c,d] t)) (w.heap.size+1) 4 (some ⟨w.heap.size,0,none⟩) 1 [a,b,c,d]:=by
 refine⟨rfl,fun _=>⟨_,rfl,by simp,fun j u y=>?_⟩⟩
 match j,y with
 | 0,y=>simp at y;subst y;simp[Addr.add]
 | 1,y=>simp at y;subst y;simp[Addr.add]
 | 2,y=>simp at y;subst y;simp[Addr.add]
 | 3,y=>simp at y;subst y;simp[Addr.add]
 | j+4,y=>simp at y
theorem Yv (l:LU):(Lib.cut l [32]).1=l.take (jo me l):=by
 by_cases h:jo me l<l.length
 ·obtain⟨a,r,H,D⟩:=vp l h;have D:a=32:=by simpa [me] using D
  subst D;have I:l[jo me l]?=some 32:=by
   have:=congrArg (fun x=>x[0]?) H;simpa [List.getElem?_drop] using this
  have J:(l.take (jo me l)).contains 32=false:=by
   cases y:(l.take (jo me l)).contains 32 with
   | false=>rfl
   | true=>
    have z:(32:UInt8)∈l.take (jo me l):=by simpa using y
    have:l.take (jo me l)=l.takeWhile me:=by unfold jo;exact(List.prefix_iff_eq_take.1 (List.takeWhile_prefix _)).symm
    rw[this] at z;have:=List.all_eq_true.1 (List.all_takeWhile (p:=me) (l:=l)) 32 z;simp[me] at this
  rw[Vs l _ J I]
 ·have K:=pm me l;have F:jo me l=l.length:=by omega
  have y:l.contains 32=false:=by
   cases y:l.contains 32 with
   | false=>rfl
   | true=>
    have z:(32:UInt8)∈l:=by simpa using y
    have:l.takeWhile me=l:=by
     have:=List.prefix_iff_eq_take.1 (List.takeWhile_prefix (p:=me) (l:=l));rw[this];exact tL (by unfold jo at F;omega)
    rw[<-this] at z;have:=List.all_eq_true.1 (List.all_takeWhile (p:=me) (l:=l)) 32 z;simp[me] at this
  rw[KL l y,F,List.take_length]
end
section
open Go.RowKit
theorem Ho (h:kf fmt s=0):s.size<=64:=by
 unfold kf at h;split at h
 ·simp at h
 ·split at h
  ·simp at h
  ·omega
theorem SJ (h:lV l=true):l.length<=64:=by
 rw[Su] at h;simp at h;omega
theorem mo.right.sizes {x:mo}(h:x.right):x.name.length<=64/\x.ver.length<=64:=by
 obtain⟨z,H,F,D⟩:=h;refine⟨SJ z,?_⟩;by_cases y:x.op=0
 ·rw[F y];simp
 ·have:=Ho (D (by omega));rw[kL] at this;exact this
theorem Oo (x:mo)(hx:x.right)(w:World)(hG:Gl w):Calls Tryz.prog 242 #[.agg #[.string (ke x.name),.int .i64 x.op,.string (ke x.ver)]] w fun e w'=>e=.returned (.int .i64 0)/\Below w.heap.size w w':=by
 obtain⟨U,J⟩:=hx.sizes;obtain⟨R,K,D,H⟩:=hx;have X:=iV hG;clear hG;have O:lV (bl (ke x.name))=true:=by rw[lS];exact R
 have s1:(ke x.name).size<=64:=by rw[kL];exact U
 have Y:(ke x.ver).size<=64:=by rw[kL];exact J
 have z:=fun W=>zf (ke x.name) W (by omega);rw[O] at z;clear O R U J;generalize ke x.name=N at *;by_cases F:x.op=0
 ·have y:ke x.ver=⟨#[]⟩:=by rw[D F];rfl
  rw[y,F];clear K D H Y y F;go_in;go_wp2_with fail;refine(z _).mono ?_;rintro e w' ⟨rfl,rfl⟩;go_wp2;go_ret;exact⟨rfl,bR.alloc lr _⟩
 ·have y:=H (by omega);have o1:decide ((x.op:Int)<0)=false:=dF (by omega);have o2:decide ((6:Int)<(x.op:Int))=false:=dF (by omega);have o3:((x.op:Int)==0)=false:=by simp;omega
  have M:=fun W Z=>jT 3 (ke x.ver) W Z (by omega);rw[y] at M;clear K D H y;generalize ke x.ver=V at *;go_in;go_wp2_with fail;refine(z _).mono ?_;rintro e w' ⟨rfl,rfl⟩;go_wp2_with fail;refine(M _ (X.out.alloc _)).mono ?_;rintro e w1 ⟨rfl,I⟩;go_wp2;go_ret;exact⟨rfl,(bR.alloc lr _).trans (I.mono (by simp))⟩
theorem Oq (A:Option Addr)(c:Nat)(L:List mo)(hL:∀ x∈L,x.right)(h64:L.length<=64)(w:World)(hG:Gl w)(hr:Rd w 4 A L.length (L.flatMap mo.cells)):Calls Tryz.prog 196 #[.slice A L.length c] w fun e w'=>e=.returned (.int .i64 0)/\Below w.heap.size w w':=by
 have R:=iV hG;have N:=iV hr;have X:=iV hL;clear hG hr hL;go_in;go_wp2;go_loopw [11] (fun i wr=>∃ k:Nat,k<=L.length/\i=.int .i64 k/\Hid (Below w.heap.size w wr)) (fun i _=>L.length-(intOf i).toNat)
 case atStart=>exact⟨0,z0,rfl,bR⟩
 case round=>
  obtain⟨k,hk,rfl,F⟩:=hrel;by_cases z:k<L.length
  ·obtain⟨x,H⟩:∃ x,L[k]?=some x:=⟨_,gG z⟩
   obtain⟨b,off,M,y⟩:=(N.out.below F.out).elem Jn k x H;have K:=y 0 _ rfl;have e1:=y 1 _ rfl;have Z:=y 2 _ rfl;have V:=y 3 _ rfl;simp only[Nat.add_zero] at K;have I:=fun W=>jm (T:=87) (E:=142) (sz:=4) (c:=c) Tryz.underlying87 rfl Tryz.sizeOf142 M z W;have Y:=iV (X.out x (gM H));clear H y M;go_wp2_with fail;have J:=iV (F.out.alloc F.out.size (.cells #[.bool x.no,.string (ke x.name),.int .i64 x.op,.string (ke x.ver)] 142));refine(Oo x Y.out _ (R.out.below J.out)).mono ?_;rintro e U ⟨rfl,D⟩;have O:Hid (Below w.heap.size w U):=jc J.out D;clear D K e1 Z V I;go_wp2;go_roundw
   case rel=>exact⟨k+1,by omega,by go_num,O⟩
   case measure=>simp[intOf];omega
  ·go_wp2;go_ret;exact⟨rfl,F.out⟩
theorem ye (A:Option Addr)(c:Nat)(xs:List BA)(sep:BA)(w:World)(hr:Rd w 1 A xs.length (strCells xs))(hc:xs.length<=c)(hn:xs.length<=140737488355328)(hlen:(Lib.join (xs.map bl) (bl sep)).length<=140737488355328):Calls Tryz.prog 193 #[.slice A xs.length c,.string sep] w fun e w'=>e=.returned (.string (ke (Lib.join (xs.map bl) (bl sep))))/\Below w.heap.size w w':=by
 by_cases H:xs.length=0
 ·have:xs=[]:=List.length_eq_zero_iff.1 H;subst this;exact(Tryz.strings_Join_none A c sep w).mono fun _ _ ⟨z,D⟩=>⟨z,by rw[D];exact bR⟩
 ·obtain⟨b,off,rfl,y⟩:=hr.2 (by omega);have I:b<w.heap.size:=by
   have F:=y 0 (.string xs[0]) (by simp[strCells]);exact World.block_lt_of_cell? _ _ F
  exact(Tryz.strings_Join b off c xs sep w (fun j x J=>y j _ (by simp[strCells,J])) I hn hc hlen).mono fun _ _ ⟨z,D⟩=>⟨z,D⟩
end
section
open Go.RowKit
inductive oM where
 | atom (name:LU) (op:Nat) (ver:LU)
 | node (op:LU) (kids:List oM)
def qo:Nat->LU->Nat
 | _,[]=>0
 | o,c::r=>if c==32 then 0 else if c==40 then qo (o+1) r+1 else if c==41 then (if o=0 then 0 else qo (o-1) r+1) else qo o r+1
def VT (c:UInt8):Bool:=c==40||c==41
def ym:LU->Nat
 | []=>0
 | c::r=>if VT c then 1 else qo 0 (c::r)
def jC (l:LU):LU:=(jq l).take (ym (jq l))
def jR (l:LU):LU:=(jq l).drop (ym (jq l))
theorem Cb:∀ (l:LU)(o:Nat),qo o l<=l.length
 | [],_=>by simp[qo]
 | c::r,o=>by
  unfold qo;have z:=Cb r (o+1);have y:=Cb r (o-1);have D:=Cb r o
  repeat' split
  all_goals simp
  all_goals omega
theorem JB (l:LU):ym l<=l.length:=by
 cases l with
 | nil=>simp[ym]
 | cons c r=>
  show(if VT c then 1 else qo 0 (c::r))<=(c::r).length;split
  ·simp
  ·exact Cb _ _
theorem Tb {c:UInt8}(h:jq l=c::r):(c==32)=false:=by
 have y:=Ss l;rw[h,vq] at y;cases hc:jN c with
 | true=>rw[hc] at y;simp at y
 | false=>exact hc
theorem DB (h:jq l≠[]):0<ym (jq l):=by
 cases hs:jq l with
 | nil=>exact absurd hs h
 | cons c r=>
  have F:=Tb hs;show 0<(if VT c then 1 else qo 0 (c::r));split
  ·omega
  ·rename_i y
   have D:(c==40)=false:=by unfold VT at y;cases h:(c==40) with
    | false=>rfl
    | true=>rw[h] at y;simp at y
   have z:(c==41)=false:=by unfold VT at y;cases h:(c==41) with
    | false=>rfl
    | true=>rw[h] at y;simp at y
   show 0<(if c==32 then 0 else if c==40 then qo (0+1) r+1 else if c==41 then (if 0=0 then 0 else qo (0-1) r+1) else qo 0 r+1);rw[F,D,z];simp
theorem VU (h:jq l≠[]):(jR l).length<l.length:=by
 have z:=DB h;have y:=JB (jq l);have D:=nr l;unfold jR;rw[List.length_drop];omega
theorem zw :jC l=[]↔jq l=[]:=by
 constructor
 ·intro h;by_cases y:jq l=[]
  ·exact y
  ·have D:=DB y;have z:=JB (jq l);unfold jC at h;have:=congrArg List.length h;rw[List.length_take,List.length_nil] at this;omega
 ·intro h;unfold jC;rw[h];rfl
def Lt (p:LU):Nat:=if p=[60] then 1 else if p=[60,61] then 2 else if p=[61] then 3 else if p=[62,61] then 4 else if p=[62] then 5 else 0
def nx:LU:=[97,110,100]
def mW:LU:=[111,114]
def vM:LU:=[105,102]
def kq:LU:=[117,110,108,101,115,115]
def nE:LU:=[119,105,116,104]
def kA:LU:=[119,105,116,104,111,117,116]
def AN:LU:=[101,108,115,101]
def oD (p:LU):Bool:=decide (p=nx\/p=mW\/p=vM\/p=kq\/p=nE\/p=kA)
def jw (op:LU)(n:Nat)(p:LU):Bool:=
 if n=1 then oD p else decide ((op=nx\/op=mW)/\p=op\/(op=vM\/op=kq)/\n=2/\p=AN)
def ra (name:LU)(op n:Nat)(l:LU):Option (oM×LU×Nat):=
 if jC l=[]\/jC l=[40]\/jC l=[41] then none else if kf 2 (ke (jC l))=0 then some (.atom name op (jC l),jR l,n) else none
def rV (name:LU)(n:Nat)(l:LU):Option (oM×LU×Nat):=
 if Lt (jC l)=0 then some (.atom name 0 [],l,n) else ra name (Lt (jC l)) n (jR l)
def ov (n:Nat)(l:LU):Option (oM×LU×Nat):=
 if n=64 then none else if mC (jC l) then rV (jC l) (n+1) (jR l) else none
mutual
def nX:Nat->Nat->Nat->LU->Option (oM×LU×Nat)
 | 0,_,_,_=>none
 | f+1,deep,n,l=>
  if jC l=[]\/jC l=[41] then none
  else if jC l=[40] then (if deep=32 then none else pL f (deep+1) n [] [] (jR l))
  else ov n l
def pL:Nat->Nat->Nat->List oM->LU->LU->Option (oM×LU×Nat)
 | 0,_,_,_,_,_=>none
 | f+1,deep,n,acc,op,l=>match nX f deep n l with
  | none=>none
  | some (k,l1,n1)=>
   if jC l1=[41]/\acc≠[] then some (.node op (acc++[k]),jR l1,n1)
   else if jw op (acc.length+1) (jC l1) then pL f deep n1 (acc++[k]) (if acc=[] then jC l1 else op) (jR l1)
   else none
end
def lJ (l:LU):Option oM:=match nX (2*l.length+2) 0 0 l with
 | none=>none
 | some (d,r,_)=>if jC r=[] then some d else none
def VV:Nat->LU
 | 1=>[60]
 | 2=>[60,61]
 | 3=>[61]
 | 4=>[62,61]
 | 5=>[62]
 | _=>[]
def VW (op:LU)(i:Nat):LU:=if 2<=i/\(op=vM\/op=kq) then AN else op
mutual
def jX:oM->LU
 | .atom nm op v=>if op=0 then nm else nm++[32]++VV op++[32]++v
 | .node op ks=>[40]++lP op 0 ks++[41]
def lP (op:LU):Nat->List oM->LU
 | _,[]=>[]
 | i,k::r=>(if i=0 then [] else [32]++VW op i++[32])++jX k++lP op (i+1) r
end
def qd (l:LU):Bool:=!l.isEmpty&&(match lJ l with | some d=>decide (jX d=l) | none=>false)
end
structure kh where
 ep:Nat
 nums:List Nat
 lt:LU
 pre:LU
 pnum:Nat
 rev:Nat
def nG:List (LU):=[[97,108,112,104,97],[98,101,116,97],[112,114,101],[114,99]]
def xy (fmt:Int):UInt8:=if fmt=3 then 95 else 126
def lQ (fmt:Int):LU:=if fmt=3 then [45,114] else [45]
def tI (fmt:Int)(c:kh):LU:=if fmt=3\/c.ep=0 then [] else jF c.ep++[58]
def re (c:kh):LU:=lL 46 (c.nums.map jF)
def qh (fmt:Int)(c:kh):LU:=if c.pre=[] then [] else xy fmt::(c.pre++jF c.pnum)
def ko (fmt:Int)(c:kh):LU:=re c++(c.lt++qh fmt c)
def jU (fmt:Int)(c:kh):LU:=tI fmt c++(ko fmt c++(lQ fmt++jF c.rev))
structure kh.ok (c:kh):Prop where
 nums:c.nums≠[]
 each:∀ n∈c.nums,n<=999999999
 ep:c.ep<=999999999
 pnum:c.pnum<=999999999
 rev:c.rev<=999999999
 lt:c.lt=[]\/∃ b,c.lt=[b]/\lF b=true
 pre:(c.pre=[]/\c.pnum=0)\/c.pre∈nG
 short:(jU 1 c).length<=64
theorem AS:jV 58=false:=by decide
theorem ZM:jV 45=false:=by decide
theorem oN (n:Nat)(h:jV x=false):x ∉ jF n:=YM (nz n) h
theorem Ej {w:LU}(h:w∈nG):w.all lF=true:=by
 simp only[nG,List.mem_cons,List.not_mem_nil,or_false] at h;rcases h with rfl | rfl | rfl | rfl<;>decide
theorem YN {w:LU}(h:w∈nG):w≠[]:=by
 simp only[nG,List.mem_cons,List.not_mem_nil,or_false] at h;rcases h with rfl | rfl | rfl | rfl<;>simp
theorem Ws (h:l.all lF=true)(hx:lF x=false):x ∉ l:=by
 intro y;rw[List.all_eq_true] at h;rw[h x y] at hx;cases hx
theorem Rh (c:kh)(h:jV x=false)(h46:x≠46):x ∉ re c:=by
 intro D;rcases zL 46 _ x D with e | ⟨l,y,z⟩
 ·exact h46 e
 ·obtain⟨n,_,rfl⟩:=List.mem_map.1 y;exact oN n h z
theorem ZN {c:kh}(ok:c.ok)(h:lF x=false):x ∉ c.lt:=by
 rcases ok.lt with e | ⟨b,e,y⟩
 ·rw[e];simp
 ·rw[e];intro z;rw[List.mem_singleton.1 z] at h;rw[h] at y;cases y
theorem Ri {c:kh}(ok:c.ok):c.pre.all lF=true:=by
 rcases ok.pre with⟨e,_⟩ | h
 ·rw[e];rfl
 ·exact Ej h
theorem YQ {c:kh}(ok:c.ok)(h:lF x=false)(hd:jV x=false)(hs:x≠xy fmt):x ∉ qh fmt c:=by
 unfold qh;split
 ·simp
 ·rw[List.mem_cons,List.mem_append];rintro(e | e | e)
  ·exact hs e
  ·exact Ws (Ri ok) h e
  ·exact oN _ hd e
theorem Ph (fmt:Int):xy fmt≠58/\xy fmt≠45/\xy fmt≠46/\jV (xy fmt)=false/\lF (xy fmt)=false:=by
 unfold xy;split<;>decide
theorem Rj {c:kh}(ok:c.ok)(h:lF x=false)(hd:jV x=false)(hs:x≠xy fmt)(h46:x≠46):x ∉ ko fmt c:=by
 unfold ko;rw[List.mem_append,List.mem_append];rintro(e | e | e)
 ·exact Rh c hd h46 e
 ·exact ZN ok h e
 ·exact YQ ok h hd hs e
theorem Ci {c:kh}(ok:c.ok):(58:UInt8) ∉ ko fmt c:=Rj ok (by decide) (by decide) (Ph fmt).1.symm (by decide)
theorem Rk {c:kh}(ok:c.ok):(45:UInt8) ∉ ko fmt c:=Rj ok (by decide) (by decide) (Ph fmt).2.1.symm (by decide)
theorem uj (b:LU)(h:x ∉ a):Lib.cut (a++x::b) [x]=(a,b,true):=by
 have:=Vs (c:=x) (a++x::b) a.length (by simp[h]) (by simp);rw[this];simp
theorem Ek (h:x ∉ a):Lib.cut a [x]=(a,[],false):=KL a (by simpa using h)
theorem Ij (a b:LU)(h:x ∉ b):nj x (a++x::b)=some a.length:=by
 refine tY x _ _ (by simp) (fun j y e=>?_);rw[List.getElem?_append_right (by omega)] at e;have:(x::b)[j-a.length]?=some x:=e;rw[show j-a.length=(j-a.length-1)+1 by omega,List.getElem?_cons_succ] at this;exact h (gM this)
def Mc (fmt:Int)(c:kh):LU:=if fmt=3\/c.ep=0 then [] else jF c.ep
theorem aao {c:kh}(ok:c.ok){x:LU×LU×LU}(h:oj (jU 1 c)=some x):x=(Mc 1 c,ko 1 c,jF c.rev):=by
 have M:lQ 1=[45]:=rfl;have D:∀ y,pF (ko 1 c++(lQ 1++jF c.rev))=some y->y=(ko 1 c,jF c.rev):=by
  intro y z;rw[M,List.singleton_append] at z;unfold pF at z;rw[Ij _ _ (oN _ ZM)] at z;simp only at z;split at z
  ·injection z with z;rw[<-z];simp
  ·cases z
 have H:(58:UInt8) ∉ ko 1 c++(lQ 1++jF c.rev):=by
  rw[List.mem_append,List.mem_append];rintro(e | e | e)
  ·exact Ci ok e
  ·rw[M] at e;simp at e
  ·exact oN _ AS e
 unfold oj at h;by_cases F:c.ep=0
 ·have K:tI 1 c=[]:=by unfold tI;rw[if_pos (.inr F)]
  have J:Mc 1 c=[]:=by unfold Mc;rw[if_pos (.inr F)]
  have I:mN (jU 1 c)=some ([],ko 1 c++(lQ 1++jF c.rev)):=by
   unfold mN jU;rw[K,List.nil_append,Ek H];simp
  rw[I] at h;simp only at h;cases hr:pF (ko 1 c++(lQ 1++jF c.rev)) with
  | none=>rw[hr] at h;cases h
  | some y=>rw[hr,D y hr] at h;simp only[Option.map_some,Option.some.injEq] at h;rw[<-h,J]
 ·have K:tI 1 c=jF c.ep++[58]:=by unfold tI;rw[if_neg (by simp[F])]
  have J:Mc 1 c=jF c.ep:=by unfold Mc;rw[if_neg (by simp[F])]
  have I:∀ y,mN (jU 1 c)=some y->y=(jF c.ep,ko 1 c++(lQ 1++jF c.rev)):=by
   intro y z;unfold mN jU at z;rw[K,List.append_assoc,List.singleton_append,uj _ (oN _ AS)] at z;simp only[if_true] at z;split at z
   ·injection z with z;exact z.symm
   ·cases z
  cases hq:mN (jU 1 c) with
  | none=>rw[hq] at h;cases h
  | some y=>
   rw[hq,I y hq] at h;simp only at h;cases hr:pF (ko 1 c++(lQ 1++jF c.rev)) with
   | none=>rw[hr] at h;cases h
   | some y=>rw[hr,D y hr] at h;simp only[Option.map_some,Option.some.injEq] at h;rw[<-h,J]
theorem aap {c:kh}(ok:c.ok){x:LU×LU×LU}(h:oo (jU 2 c)=some x):x=(Mc 2 c,ko 2 c,jF c.rev):=by
 have M:lQ 2=[45]:=rfl;have D:∀ y,sF (ko 2 c++(lQ 2++jF c.rev))=some y->y=(ko 2 c,jF c.rev):=by
  intro y z;rw[M,List.singleton_append] at z;unfold sF at z;rw[uj _ (Rk ok)] at z;simp only at z;split at z
  ·injection z with z;exact z.symm
  ·cases z
 have H:(58:UInt8) ∉ ko 2 c++(lQ 2++jF c.rev):=by
  rw[List.mem_append,List.mem_append];rintro(e | e | e)
  ·exact Ci ok e
  ·rw[M] at e;simp at e
  ·exact oN _ AS e
 unfold oo at h;by_cases F:c.ep=0
 ·have K:tI 2 c=[]:=by unfold tI;rw[if_pos (.inr F)]
  have J:Mc 2 c=[]:=by unfold Mc;rw[if_pos (.inr F)]
  have I:pU (jU 2 c)=some ([],ko 2 c++(lQ 2++jF c.rev)):=by
   unfold pU jU;rw[K,List.nil_append,Ek H];simp
  rw[I] at h;simp only at h;cases hr:sF (ko 2 c++(lQ 2++jF c.rev)) with
  | none=>rw[hr] at h;cases h
  | some y=>rw[hr,D y hr] at h;simp only[Option.map_some,Option.some.injEq] at h;rw[<-h,J]
 ·have K:tI 2 c=jF c.ep++[58]:=by unfold tI;rw[if_neg (by simp[F])]
  have J:Mc 2 c=jF c.ep:=by unfold Mc;rw[if_neg (by simp[F])]
  have I:∀ y,pU (jU 2 c)=some y->y=(jF c.ep,ko 2 c++(lQ 2++jF c.rev)):=by
   intro y z;unfold pU jU at z;rw[K,List.append_assoc,List.singleton_append,uj _ (oN _ AS)] at z;simp only[if_true] at z;split at z
   ·injection z with z;exact z.symm
   ·cases z
  cases hq:pU (jU 2 c) with
  | none=>rw[hq] at h;cases h
  | some y=>
   rw[hq,I y hq] at h;simp only at h;cases hr:sF (ko 2 c++(lQ 2++jF c.rev)) with
   | none=>rw[hr] at h;cases h
   | some y=>rw[hr,D y hr] at h;simp only[Option.map_some,Option.some.injEq] at h;rw[<-h,J]
theorem El:∀ (L:List Nat)(k:Nat)(kind:Int)(acc:List Pc)(r:LU),L≠[]->L.length<=k->(∀ x,r.head?=some x->jV x=false/\x≠46) ->
  ∃ acc',pH k kind acc (lL 46 (L.map jF)++r)=some (acc',r)
 | [],_,_,_,_,h,_,_=>absurd rfl h
 | _::_,0,_,_,_,_,h,_=>by simp at h
 | [n],k+1,kind,acc,r,_,_,hr=>by
  have y:jo jV (jF n++r)=(jF n).length:=zJ (nz n) (fun x z=>(hr x z).1);have D:=Ei n;simp only[List.map_cons,List.map_nil,lL];unfold pH;rw[y,if_neg (by omega),List.drop_left,List.take_left];cases r with
  | nil=>exact⟨_,rfl⟩
  | cons x t=>
   have z:=(hr x rfl).2;split
   ·rename_i e;injection e with e1 _;exact absurd e1 z
   ·exact⟨_,rfl⟩
 | n::m::L,k+1,kind,acc,r,_,hk,hr=>by
  have D:=Ei n;simp only[List.map_cons,lL,List.append_assoc,List.cons_append];have y:jo jV (jF n++46::(lL 46 (jF m::L.map jF)++r))=(jF n).length:=zJ (nz n) (fun x z=>by
   simp only[List.head?_cons,Option.some.injEq] at z;rw[<-z];decide)
  unfold pH;rw[y,if_neg (by omega),List.drop_left,List.take_left];exact El (m::L) k 6 _ r (by simp) (by simp at hk |-;omega) hr
theorem Md:∀ (L:List Nat),L.length<=(lL 46 (L.map jF)).length
 | []=>by simp
 | [n]=>by have:=Ei n;simp[lL];omega
 | n::m::L=>by
  have:=Md (m::L);simp only[List.map_cons,lL,List.length_append,List.length_cons] at this |-;omega
theorem Me (h:l.all lF=true)(hr:∀ c,r.head?=some c->lF c=false):jo lF (l++r)=l.length:=by
 unfold jo
 induction l with
 | nil=>
  cases r with
  | nil=>rfl
  | cons a t=>rw[List.nil_append,List.takeWhile_cons_of_neg (by rw[hr a rfl];simp)]
 | cons a t ih=>
  rw[List.all_cons,Bool.and_eq_true] at h;rw[List.cons_append,List.takeWhile_cons_of_pos h.1,List.length_cons,ih h.2,List.length_cons]
theorem zM (h:jV x=true):lF x=false:=by
 unfold jV at h;unfold lF;have:=dO h;exact dF (by omega)
theorem sV (n:Nat)(r:LU):∀ x,(jF n++r).head?=some x->jV x=true:=by
 intro x y;have h:=nz n;cases e:jF n with
 | nil=>exact absurd e (rB n)
 | cons a t=>
  rw[e] at y h;rw[List.all_cons,Bool.and_eq_true] at h;simp only[List.cons_append,List.head?_cons,Option.some.injEq] at y;rw[<-y];exact h.1
theorem TM {w:LU}(h:w∈nG):∃ i,ub w=some i:=by
 simp only[nG,List.mem_cons,List.not_mem_nil,or_false] at h;rcases h with rfl | rfl | rfl | rfl
 ·exact⟨0,by decide⟩
 ·exact⟨1,by decide⟩
 ·exact⟨2,by decide⟩
 ·exact⟨3,by decide⟩
theorem Wt {c:kh}(ok:c.ok):rP (jU 3 c)=some ([],ko 3 c,jF c.rev):=by
 have e1:tI 3 c=[]:=by unfold tI;rw[if_pos (.inl rfl)]
 have hd:lQ 3=[45,114]:=rfl;generalize Z:lQ 3++jF c.rev=R;have H:R=45::114::jF c.rev:=by rw[<-Z,hd];rfl
 have M:∀ x,(qh 3 c++R).head?=some x->x=95\/x=45:=by
  intro x y;unfold qh at y;split at y
  ·rw[H] at y;simp at y;exact .inr y.symm
  ·simp[xy] at y;exact .inl y.symm
 have V:∀ x,(c.lt++(qh 3 c++R)).head?=some x->jV x=false/\x≠46:=by
  intro x y;rcases ok.lt with e | ⟨b,e,N⟩
  ·rw[e,List.nil_append] at y;rcases M x y with rfl | rfl<;>decide
  ·rw[e] at y;simp only[List.cons_append,List.head?_cons,Option.some.injEq] at y;subst y;constructor
   ·cases h:jV b with
    | false=>rfl
    | true=>rw[zM h] at N;cases N
   ·rintro rfl;revert N;decide
 have hl:jU 3 c=re c++(c.lt++(qh 3 c++R)):=by unfold jU ko;rw[e1,Z];simp
 obtain⟨z,hn⟩:=El c.nums ((jU 3 c).length+1) 7 [] (c.lt++(qh 3 c++R)) ok.nums (by
  have:=Md c.nums;rw[hl,List.length_append];unfold re;omega) V
 have D:∃ acc',ri z (c.lt++(qh 3 c++R))=(acc',qh 3 c++R):=by
  rcases ok.lt with e | ⟨b,e,N⟩
  ·rw[e,List.nil_append];cases hq:qh 3 c++R with
   | nil=>exact⟨z,rfl⟩
   | cons x t=>
    have y:lF x=false:=by rcases M x (by rw[hq];rfl) with rfl | rfl<;>decide
    refine⟨z,?_⟩;unfold ri;simp only;rw[if_neg (by rw[y];simp)]
  ·rw[e];refine⟨z++[⟨5,[b],0⟩],?_⟩;show ri z (b::(qh 3 c++R))=_;unfold ri;simp only;rw[if_pos N]
 obtain⟨K,D⟩:=D;have J:∀ k z,nW (k+1) z R=some (z,R):=by
  intro k z;rw[H];unfold nW;simp
 have F:∃ acc',nW ((qh 3 c++R).length+1) K (qh 3 c++R)=some (acc',R):=by
  unfold qh;split
  ·exact⟨_,J _ _⟩
  ·rename_i X;have Y:c.pre∈nG:=by
    rcases ok.pre with⟨e,_⟩ | h
    ·exact absurd e X
    ·exact h
   obtain⟨i,hi⟩:=TM Y;have U:xy 3=95:=rfl;rw[U];simp only[List.cons_append,List.length_cons,List.append_assoc];have r1:jo lF (c.pre++(jF c.pnum++R))=c.pre.length:=Me (Ej Y) (fun x y=>zM (sV _ _ x y));have r2:jo jV (jF c.pnum++R)=(jF c.pnum).length:=zJ (nz _) (fun x y=>by rw[H] at y;simp at y;rw[<-y];decide);unfold nW;simp only[r1,List.take_left,List.drop_left,hi,r2];exact⟨_,J _ _⟩
 obtain⟨I,F⟩:=F;unfold rP xT;rw[hl] at *;unfold re at *;rw[hn];simp only[D,F];have O:wK (lL 46 (c.nums.map jF)++(c.lt++(qh 3 c++R))) I R=some (I++[⟨2,jF c.rev,0⟩]++[⟨1,[],0⟩],ko 3 c,jF c.rev):=by
  rw[H];unfold wK;simp only[zI,if_true];congr 3;rw[<-H];have:lL 46 (c.nums.map jF)++(c.lt++(qh 3 c++R))=ko 3 c++R:=by unfold ko re;simp
  rw[this,List.length_append,Nat.add_sub_cancel,List.take_left]
 rw[O];rfl
theorem Mf (hf:fmt=1\/fmt=2\/fmt=3){c:kh}(ok:c.ok){x:LU×LU×LU}(h:oz fmt (jU fmt c)=some x):x=(Mc fmt c,ko fmt c,jF c.rev):=by
 rcases hf with rfl | rfl | rfl
 ·exact aao ok h
 ·exact aap ok h
 ·have y:oz 3 (jU 3 c)=rP (jU 3 c):=rfl;rw[y,Wt ok] at h;injection h with h;rw[<-h];unfold Mc;rw[if_pos (.inl rfl)]
def Pi:LU->LU->Bool
 | _,[]=>true
 | [],_::_=>false
 | a::l,b::w=>a==b&&Pi l w
def ro (l:LU):LU:=match l.getLast? with
 | some b=>if lF b=true then [b] else []
 | none=>[]
def AT (l:LU):LU:=if ro l=[] then l else l.dropLast
def Em (tail:LU)(a:LU×Nat)(w:LU):LU×Nat:=if Pi tail w=true then (w,(lI (tail.drop w.length)).toNat) else a
def uT (fmt:Int)(x:LU×LU×LU):kh where
 ep:=if x.1=[] then 0 else (lI x.1).toNat
 nums:=(lk 46 (AT (Lib.cut x.2.1 [xy fmt]).1)).map fun d=>(lI d).toNat
 lt:=ro (Lib.cut x.2.1 [xy fmt]).1
 pre:=(nG.foldl (Em (Lib.cut x.2.1 [xy fmt]).2.1) ([],0)).1
 pnum:=(nG.foldl (Em (Lib.cut x.2.1 [xy fmt]).2.1) ([],0)).2
 rev:=(lI x.2.2).toNat
theorem yz (h:n<=999999999):(lI (jF n)).toNat=n:=by
 have:=(Pg (n:=n) (by unfold Cx;omega)).1;rw[this];simp
theorem JM (hne:l≠[])(h:l.all jV=true):∃ b,l.getLast?=some b/\jV b=true:=by
 cases e:l.getLast? with
 | none=>rw[List.getLast?_eq_none_iff] at e;exact absurd e hne
 | some b=>
  refine⟨b,rfl,?_⟩;rw[List.all_eq_true] at h;exact h b (List.mem_of_getLast? e)
theorem TN {c:kh}(h:c.nums≠[]):∃ b,(re c).getLast?=some b/\jV b=true:=by
 obtain⟨L,n,e⟩:∃ L n,c.nums=L++[n]:=by
  cases hl:c.nums.getLast? with
  | none=>rw[List.getLast?_eq_none_iff] at hl;exact absurd hl h
  | some n=>obtain⟨L,e⟩:=List.getLast?_eq_some_iff.1 hl;exact⟨L,n,e⟩
 unfold re;rw[e,List.map_append,List.map_singleton,xg];obtain⟨b,z,y⟩:=JM (rB n) (nz n);refine⟨b,?_,y⟩;rw[List.getLast?_append,z];rfl
theorem TQ {c:kh}(ok:c.ok):ro (re c++c.lt)=c.lt/\AT (re c++c.lt)=re c:=by
 have key:ro (re c++c.lt)=c.lt:=by
  unfold ro;rcases ok.lt with e | ⟨b,e,y⟩
  ·obtain⟨b,y,z⟩:=TN ok.nums;rw[e,List.append_nil,y];simp only;rw[zM z,if_neg (by simp)]
  ·rw[e,List.getLast?_append];simp[y]
 refine⟨key,?_⟩;unfold AT;rw[key];rcases ok.lt with e | ⟨b,e,y⟩
 ·rw[if_pos e,e,List.append_nil]
 ·rw[if_neg (by rw[e];simp),e];simp
theorem TR {w:LU}(hw:w∈nG)(hn:n<=999999999):nG.foldl (Em (w++jF n)) ([],0)=(w,n):=by
 have y:=yz hn;have z:=sV n [];rw[List.append_nil] at z;simp only[nG,List.mem_cons,List.not_mem_nil,or_false] at hw;rcases hw with rfl | rfl | rfl | rfl
 all_goals
  simp only[nG,List.foldl_cons,List.foldl_nil,Em,List.cons_append,List.nil_append,Pi];cases e:jF n with
  | nil=>exact absurd e (rB n)
  | cons a t=>rw[e] at y;simp[Pi,y]
theorem Pj {c:kh}(ok:c.ok)(h3:fmt=3->c.ep=0):uT fmt (Mc fmt c,ko fmt c,jF c.rev)=c:=by
 have z:xy fmt ∉ re c++c.lt:=by
  obtain⟨_,_,H,M,K⟩:=Ph fmt;rw[List.mem_append];rintro(h | h)
  ·exact Rh c M H h
  ·exact ZN ok K h
 have hcut:(Lib.cut (ko fmt c) [xy fmt]).1=re c++c.lt/\nG.foldl (Em (Lib.cut (ko fmt c) [xy fmt]).2.1) ([],0)=(c.pre,c.pnum):=by
  unfold ko qh;rw[<-List.append_assoc];rcases ok.pre with⟨e,N⟩ | h
  ·rw[if_pos e,List.append_nil,Ek z,e,N];exact⟨rfl,(show nG.foldl (Em []) ([],0)=([],0) from by decide)⟩
  ·rw[if_neg (YN h),uj _ z];exact⟨rfl,TR h ok.pnum⟩
 have F:=TQ ok;have D:(if Mc fmt c=[] then 0 else (lI (Mc fmt c)).toNat)=c.ep:=by
  unfold Mc;by_cases e:fmt=3\/c.ep=0
  ·rw[if_pos e,if_pos rfl];rcases e with e | e
   ·exact(h3 e).symm
   ·exact e.symm
  ·rw[if_neg e,if_neg (rB _)];exact yz ok.ep
 have y:(lk 46 (re c)).map (fun d=>(lI d).toNat)=c.nums:=by
  unfold re;rw[yy 46 _ (by simpa using ok.nums) (fun l I=>by obtain⟨n,_,rfl⟩:=List.mem_map.1 I;exact oN n (by decide)),List.map_map];have:∀ (L:List Nat),(∀ n∈L,n<=999999999)->L.map ((fun d=>(lI d).toNat) ∘ jF)=L:=by
   intro L
   induction L with
   | nil=>intro _;rfl
   | cons a r ih=>intro h;rw[List.map_cons,ih (fun n J=>h n (List.mem_cons_of_mem _ J))];congr 1;exact yz (h a (by simp))
  exact this _ ok.each
 unfold uT;rw[hcut.1,hcut.2,F.1,F.2,D,y,yz ok.rev]
def Rl:LU->Bool
 | []=>true
 | [b]=>lF b
 | _=>false
def rp (c:kh):Bool:=!c.nums.isEmpty&&(c.nums.all (fun n=>decide (n<=999999999))&&(decide (c.ep<=999999999)&&(decide (c.pnum<=999999999)&&(decide (c.rev<=999999999)&&(Rl c.lt&&(((c.pre.isEmpty&&decide (c.pnum=0))||nG.contains c.pre)&&decide ((jU 1 c).length<=64)))))))
theorem YR (l:LU):Rl l=true↔l=[]\/∃ b,l=[b]/\lF b=true:=by
 match l with
 | []=>simp[Rl]
 | [b]=>simp[Rl]
 | a::b::r=>simp[Rl]
theorem vy (c:kh):rp c=true↔c.ok:=by
 unfold rp;simp only[Bool.and_eq_true,Bool.or_eq_true,decide_eq_true_eq,Bool.not_eq_true',List.isEmpty_eq_false_iff,List.isEmpty_iff,List.all_eq_true,YR,List.contains_iff_mem];constructor
 ·rintro⟨h1,h2,h3,h4,h5,h6,h7,h8⟩;exact⟨h1,h2,h3,h4,h5,h6,h7,h8⟩
 ·rintro⟨h1,h2,h3,h4,h5,h6,h7,h8⟩;exact⟨h1,h2,h3,h4,h5,h6,h7,h8⟩
def ll (fmt:Int)(c:kh):Bool:=rp c&&(!decide (fmt=3/\c.ep≠0)&&decide ((jU fmt c).length<=64))
def zN (fmt:Int)(c:kh):LU×Int:=if ll fmt c=true then (jU fmt c,0) else ([],11)
theorem zO {c:kh}(h:ll fmt c=true):c.ok/\(fmt=3->c.ep=0):=by
 unfold ll at h;simp only[Bool.and_eq_true,Bool.not_eq_true',decide_eq_false_iff_not] at h;refine⟨(vy c).1 h.1,fun e=>?_⟩;have:=h.2.1;by_cases y:c.ep=0
 ·exact y
 ·exact absurd ⟨e,y⟩ this
def fits (fmt:Int)(l:LU)(c:kh):Bool:=ll fmt c&&decide (jU fmt c=l)
def uw (fmt:Int)(l:LU):Option kh:=match oz fmt l with
 | none=>none
 | some x=>if fits fmt l (uT fmt x)=true then some (uT fmt x) else none
theorem Mg {c:kh}:fits fmt l c=true↔ll fmt c=true/\jU fmt c=l:=by
 unfold fits;rw[Bool.and_eq_true,decide_eq_true_eq]
theorem Ik {c:kh}(h:uw fmt l=some c):ll fmt c=true/\jU fmt c=l:=by
 unfold uw at h;split at h
 ·cases h
 ·split at h
  ·rename_i y;injection h with h;subst h;exact Mg.1 y
  ·cases h
theorem Rm (hf:fmt=1\/fmt=2\/fmt=3)(hs:oz fmt l≠none){c:kh}(h:ll fmt c=true)(he:jU fmt c=l):uw fmt l=some c:=by
 obtain⟨ok,D⟩:=zO h;cases e:oz fmt l with
 | none=>exact absurd e hs
 | some x=>
  have z:x=(Mc fmt c,ko fmt c,jF c.rev):=Mf hf ok (by rw[he];exact e);have y:uT fmt x=c:=by rw[z];exact Pj ok D
  unfold uw;rw[e];simp only;rw[y,if_pos (Mg.2 ⟨h,he⟩)]
def qi (fmt:Int)(s:BA):Int:=if kf fmt s≠0 then kf fmt s else if uw fmt (bl s)=none then 11 else 0
def trans (a b:Int)(s:BA):LU×Int:=
 if ¬ (a=1\/a=2\/a=3)\/¬ (b=1\/b=2\/b=3) then ([],9) else if kf a s≠0 then ([],kf a s) else match uw a (bl s) with
  | none=>([],11)
  | some c=>zN b c
theorem En (hf:fmt=1\/fmt=2\/fmt=3)(h:kf fmt s=0):oz fmt (bl s)≠none/\s.size<=64:=by
 unfold kf at h;rw[if_neg (fun y=>y hf)] at h;split at h
 ·simp at h
 ·rename_i z;refine⟨fun e=>?_,by omega⟩;rw[e] at h;simp[BV] at h
theorem YS (c:kh):jU 2 c=jU 1 c:=by
 unfold jU tI ko qh lQ xy;simp
section
open Go.RowKit
abbrev lE (a:Int):Prop:=a=1\/a=2\/a=3
def sM (a b:Int)(g:jf):jf:=⟨g.nm,3,⟨(trans a b g.ver).1.toArray⟩⟩
theorem Mh {a b:Int}:(trans a b s).1.length<=64:=by
 unfold trans
 repeat' split
 all_goals first | (simp;done) | skip
 unfold zN;split
 ·rename_i h;unfold ll at h;simp only[Bool.and_eq_true,decide_eq_true_eq] at h;exact h.2.2
 ·simp
theorem Eo (c:UInt8)(w:World):Calls Tryz.prog 132 #[.int .u8 c.toNat] w fun e w'=>e=.returned (.bool (lF c))/\w=w':=by
 go_in;go_wp2
 all_goals (go_ret;refine⟨iW ?_,rfl⟩;rw[bI];simp[lF];omega)
def uu (n:Int):Bool:=!decide (lE n)
theorem zQ (n:Int)(w:World):Calls Tryz.prog 79 #[.int .i64 n] w fun e w'=>e=.returned (.bool (uu n))/\w=w':=by
 go_in;go_wp2
 all_goals (go_ret;refine⟨iW ?_,rfl⟩;rw[bI];simp[uu,lE];omega)
def sx (fmt:Int):BA:=⟨#[xy fmt]⟩
def yA (fmt:Int):BA:=⟨(lQ fmt).toArray⟩
theorem Ep (fmt:Int)(w:World):Calls Tryz.prog 130 #[.int .i64 fmt] w fun e w'=>e=.returned (.tuple #[.string (sx fmt),.string (yA fmt)])/\w=w':=by
 by_cases h:fmt=3
 ·subst h;go_in;go_wp2;go_ret2;exact⟨rfl,rfl⟩
 ·have q:(fmt==3)=false:=by simpa using h
  have E:Hid (sx fmt=⟨#[126]⟩/\yA fmt=⟨#[45]⟩):=by
   show _/\_;unfold sx yA xy lQ;rw[if_neg h,if_neg h];exact⟨rfl,rfl⟩
  go_in;go_wp2;go_ret2;exact⟨by rw[E.out.1,E.out.2];rfl,rfl⟩
theorem Er (n:Nat):Lib.decDigits n=jF n:=by
 induction n using Nat.strongRecOn with
 | ind n ih=>
  by_cases h:n<10
  ·rw[nO h,Lib.decDigits,dif_pos h]
  ·rw[tH h,Lib.decDigits,dif_neg h,ih (n / 10) (by omega)]
def tJ (n:Nat):BA:=⟨(jF n).toArray⟩
theorem uk (n:Nat):bl (tJ n)=jF n:=pd _
theorem uU:∀ (k n:Nat),n<10 ^ (k+1)->(jF n).length<=k+1
 | 0,n,h=>by rw[nO (by simpa using h)];simp
 | k+1,n,h=>by
  by_cases y:n<10
  ·rw[nO y];simp
  ·rw[tH y,List.length_append,List.length_singleton];have:=uU k (n / 10) (by rw[Nat.div_lt_iff_lt_mul (by omega)];rw[Nat.pow_succ] at h;exact h);omega
theorem yB (h:n<=4611686018427387903):(tJ n).size<=19:=by
 have:=uU 18 n (by omega);have y:=iX (tJ n);rw[uk] at y;omega
theorem jh.grownQ {r:Option Nat}{vs:List Value}(h:jh wr b vs)(hg:wr.grownBy w' r)(hne:some b≠r):jh w' b vs:=by
 have y:w'.heap[b]?=wr.heap[b]?:=hg.block b h.sz (fun e=>hne e);refine⟨Nat.lt_of_lt_of_le h.sz hg.size,fun j u D=>?_,fun j z=>?_⟩
 ·exact(World.cell?_of_block (a:=⟨b,j,none⟩) y).trans (h.cell j u D)
 ·exact(World.frozen?_of_block (a:=⟨b,j,none⟩) y).trans (h.free j z)
theorem Mu (w:World)(t:TypeId)(x y z:Value):oP (w.alloc (.cells #[x,y,z] t)) (w.heap.size+1) 3 (some ⟨w.heap.size,0,none⟩) 1 [x,y,z]:=by
 refine⟨rfl,fun _=>⟨_,rfl,by simp,fun j u D=>?_⟩⟩;rw[show Addr.add ⟨w.heap.size,0,none⟩ j=⟨w.heap.size,j,none⟩ by unfold Addr.add;split<;>simp_all];exact(jh.new w [x,y,z] t).cell j u D
def Fo (a:Int):Nat:=if a=1 then 1 else if a=2 then 3 else 2
theorem Rz {a:Int}(h:lE a):I4 a=(Fo a:Int)/\Fo a<4/\∀ k:kV,k.cells[1+Fo a]?=some (.string (k.sum (mv a))):=by
 rcases h with rfl | rfl | rfl<;>exact⟨rfl,by decide,fun _=>rfl⟩
structure kV.small (k:kV):Prop where
 path:k.path.size<=1000000
 s0:k.s0.size<=1000000
 s1:k.s1.size<=1000000
 s2:k.s2.size<=1000000
 s3:k.s3.size<=1000000
theorem kV.small.sum {k:kV}(h:k.small)(i:Int):(k.sum i).size<=1000000:=by
 unfold kV.sum
 repeat' split
 ·exact h.s1
 ·exact h.s2
 ·exact h.s3
 ·exact h.s0
theorem aaC {sz:Nat}{xs:List Value}{ms:List ql}(h:Rd w sz A n xs)(hsz:0<sz)(hm:mj w b ms)(hg:w.grownBy wr (some b)):Rd wr sz A n xs:=by
 refine⟨h.1,fun I=>?_⟩;obtain⟨g,off,e,F⟩:=h.2 I;have N:0<xs.length:=by rw[h.1];exact Nat.mul_pos I hsz
 have D:g≠b:=by
  intro y;subst y;obtain⟨M,z,K,_⟩:=hm;have:=F 0 xs[0] (by simp);simp[World.cell?,K] at this
 refine⟨g,off,e,fun j u J=>?_⟩;have H:=F j u J;exact(World.cell?_of_block (a:=⟨g,off+j,none⟩) (hg.block g (World.block_lt_of_cell? _ _ H) (by intro y;injection y with y;exact D y))).trans H
structure kV.fits (k:kV):Prop where
 path:k.path.size<=9223372036854775807
 s0:k.s0.size<=9223372036854775807
 s1:k.s1.size<=9223372036854775807
 s2:k.s2.size<=9223372036854775807
 s3:k.s3.size<=9223372036854775807
def Ni (p:Prop)(w:World)(e:Ending)(w':World):Prop:=∃ b:Bool,e=.returned (.bool b)/\(b=true->p)/\Below w.heap.size w w'
theorem oH (h:Below w.heap.size w w'):Ni p w (.returned (.bool false)) w':=⟨false,rfl,(fun h=>by cases h),h⟩
theorem IR (hp:p)(h:Below w.heap.size w w'):Ni p w (.returned (.bool true)) w':=⟨true,rfl,fun _=>hp,h⟩
theorem RJ {α:Type}{p:α->Prop}{l:List α}{k:Nat}{x:α}(h:∀ y∈l.take k,p y)(hx:l[k]?=some x)(hp:p x):∀ y∈l.take (k+1),p y:=by
 intro g z;rw[jI hx] at z;rcases List.mem_append.1 z with z | z
 ·exact h g z
 ·rw[List.mem_singleton.1 z];exact hp
theorem Fy (A:Option Addr)(c:Nat)(l:List kV)(w:World)(hr:Rd w 5 A l.length (l.flatMap kV.cells))(ho:∀ k∈l,k.fits)(hl:l.length<=9223372036854775807):Calls Tryz.prog 21 #[.slice A l.length c] w (Ni (l.length<=100/\∀ k∈l,k.small) w):=by
 have V:=iV hr;have Y:=iV ho;clear hr ho;by_cases hc:100<l.length
 ·have d1:decide ((100:Int)<l.length)=true:=dT (by omega);go_in;go_wp2;go_ret;exact oH bR
 have J:Hid (l.length<=100):=by show _<=_;omega
 have d1:decide ((100:Int)<l.length)=false:=dF (by omega);clear hc;go_in;go_wp2;go_loop [3] (fun i=>∃ k:Nat,k<=l.length/\i=.int .i64 k/\Hid (∀ y∈l.take k,y.small)) (fun i=>l.length-(intOf i).toNat)
 case atStart=>exact⟨0,z0,rfl,by intro g hg;simp at hg⟩
 case round=>
  obtain⟨k,hk,rfl,U⟩:=hrel;by_cases D:k<l.length
  ·obtain⟨x,F⟩:∃ x,l[k]?=some x:=⟨_,gG D⟩
   obtain⟨b,off,R,z⟩:=V.out.elem wJ k x F;have e0:=z 0 _ rfl;have e1:=z 1 _ rfl;have e2:=z 2 _ rfl;have e3:=z 3 _ rfl;have e4:=z 4 _ rfl;simp only[Nat.add_zero] at e0;have aa:=fun W=>jm (T:=23) (E:=64) (sz:=5) (c:=c) Tryz.underlying23 rfl Tryz.sizeOf64 R D W;obtain⟨z0,z1,z2,z3,z4⟩:=Y.out x (gM F);have HX:=iV F;clear F R z;obtain⟨M,h0⟩:∃ M,decide ((300:Int)<x.path.size)=M:=⟨_,rfl⟩
   obtain⟨K,h1⟩:∃ K,decide ((300:Int)<x.s0.size)=K:=⟨_,rfl⟩
   obtain⟨O,X⟩:∃ O,decide ((300:Int)<x.s1.size)=O:=⟨_,rfl⟩
   obtain⟨I,Z⟩:∃ I,decide ((300:Int)<x.s2.size)=I:=⟨_,rfl⟩
   obtain⟨H,h4⟩:∃ H,decide ((300:Int)<x.s3.size)=H:=⟨_,rfl⟩
   cases M
   rotate_left
   ·go_wp2;go_ret;exact oH bR
   go_wp2_with fail;refine wp_loop_rounds 5 ?_;rw[rounds_succ];cases K
   rotate_left
   ·go_wp2;go_ret;exact oH bR
   go_wp2_with fail;rw[rounds_succ];cases O
   rotate_left
   ·go_wp2;go_ret;exact oH bR
   go_wp2_with fail;rw[rounds_succ];cases I
   rotate_left
   ·go_wp2;go_ret;exact oH bR
   go_wp2_with fail;rw[rounds_succ];cases H
   rotate_left
   ·go_wp2;go_ret;exact oH bR
   go_wp2_with fail;rw[rounds_succ];have N:Hid (∀ y∈l.take (k+1),y.small):=RJ U.out HX.out ⟨by have:=of_decide_eq_false h0;omega,by have:=of_decide_eq_false h1;omega,by have:=of_decide_eq_false X;omega,by have:=of_decide_eq_false Z;omega,by have:=of_decide_eq_false h4;omega⟩;go_wp2;go_round
   case rel=>exact⟨k+1,by omega,by go_num,N⟩
   case measure=>simp[intOf];omega
  ·have HN:Hid (∀ y∈l,y.small):=by have:=U.out;rwa [tL (by omega)] at this
   go_wp2;go_ret;exact IR ⟨J.out,HN.out⟩ bR
end
section
open Go.ChangeShapes Go.WideShapes Go.Deep Go.RowKit
section
variable {H : Type} {enc : TypeId × Value -> H} {w : World} {spare : Nat -> Bool}
theorem Nu {cs:List Value}{y:DataW H×List MemPlace}(h:DataW.trod enc Tryz.prog w 0 spare true n 64 cs=some y):∃ k:kV,cs=k.cells/\k.fits:=by
 have hC:Tryz.prog.cellsOf 64=5:=by kernel_rfl
 have hS:Tryz.prog.cellsOf 9=1:=by kernel_rfl
 have hA:Tryz.prog.cellsOf 62=4:=by kernel_rfl
 obtain⟨I,n1,_,_,hl,aa,hf⟩:=DataW.trod_struct Tryz.underlying64 h;rw[hC] at hl
 match cs,hl with
 | [c0,c1,c2,c3,c4],_=>
  have R:DataW.trod enc Tryz.prog w 0 spare true n1 9 (([c0,c1,c2,c3,c4].drop 0).take (Tryz.prog.cellsOf 9))=I[0]?:=hf 0 _ rfl;have X:DataW.trod enc Tryz.prog w 0 spare true n1 62 (([c0,c1,c2,c3,c4].drop 1).take (Tryz.prog.cellsOf 62))=I[1]?:=hf 1 _ rfl;have ab:I.length=2:=aa;rw[hS,gG (by omega)] at R;rw[hA,gG (by omega)] at X;obtain⟨s0,z,_,w0⟩:=DataW.trod_string Tryz.underlying9 R;have z:[c0]=[Value.string s0]:=z;injection z with z _;obtain⟨F,m,_,_,_,ac,D⟩:=DataW.trod_array Tryz.underlying62 X;have M:DataW.trod enc Tryz.prog w 0 spare true m 9 (([c1,c2,c3,c4].drop (0*Tryz.prog.cellsOf 9)).take (Tryz.prog.cellsOf 9))=F[0]?:=D 0 (by decide);have Y:DataW.trod enc Tryz.prog w 0 spare true m 9 (([c1,c2,c3,c4].drop (1*Tryz.prog.cellsOf 9)).take (Tryz.prog.cellsOf 9))=F[1]?:=D 1 (by decide);have V:DataW.trod enc Tryz.prog w 0 spare true m 9 (([c1,c2,c3,c4].drop (2*Tryz.prog.cellsOf 9)).take (Tryz.prog.cellsOf 9))=F[2]?:=D 2 (by decide);have J:DataW.trod enc Tryz.prog w 0 spare true m 9 (([c1,c2,c3,c4].drop (3*Tryz.prog.cellsOf 9)).take (Tryz.prog.cellsOf 9))=F[3]?:=D 3 (by decide);rw[hS,gG (by omega)] at M Y V J;obtain⟨K,z1,_,w1⟩:=DataW.trod_string Tryz.underlying9 M;obtain⟨U,z2,_,w2⟩:=DataW.trod_string Tryz.underlying9 Y;obtain⟨O,z3,_,w3⟩:=DataW.trod_string Tryz.underlying9 V;obtain⟨s4,z4,_,w4⟩:=DataW.trod_string Tryz.underlying9 J;have N:[c1]=[Value.string K]:=z1;have Z:[c2]=[Value.string U]:=z2;have y3:[c3]=[Value.string O]:=z3;have y4:[c4]=[Value.string s4]:=z4;clear z1 z2 z3 z4 M Y V J D R X hf h;injection N with N _;injection Z with Z _;injection y3 with y3 _;injection y4 with y4 _;subst z N Z y3 y4;unfold maxLen at w0 w1 w2 w3 w4;exact⟨⟨s0,K,U,O,s4⟩,rfl,⟨by show s0.size<=_;omega,by show K.size<=_;omega,by show U.size<=_;omega,by show O.size<=_;omega,by show s4.size<=_;omega⟩⟩
theorem FI {fuel:Nat}{v:Value}{d:DataW H×List MemPlace}(h:DataW.trod enc Tryz.prog w 0 spare true fuel 23 [v]=some d):
  ∃ (A:Option Addr) (c:Nat) (l:List kV),v=.slice A l.length c/\Rd w 5 A l.length (l.flatMap kV.cells)/\(∀ k∈l,k.fits)/\l.length<=9223372036854775807:=by
 rcases open_slice Tryz.underlying23 h with⟨y,_⟩ | ⟨a,len,cap,m,n,D,Pl,y,_,hl,hm,O,_,hi⟩
 ·injection y with y _;exact⟨none,0,[],y,Rd.nil _ _ _,fun x K=>by simp at K,z0⟩
 ·injection y with y _;have aa:len<=m:=by rw[O];split<;>omega
  have key:∀ i,i<len->∃ x:kV,x.fits/\∀ (j:Nat)(u:Value),x.cells[j]?=some u->w.cell? ⟨a.block,a.off+(i*5+j),none⟩=some u/\a.add (i*5+j)=⟨a.block,a.off+(i*5+j),none⟩:=by
   intro i I;obtain⟨ac,Y,U⟩:=hi i (by omega);rw[show Tryz.prog.cellsOf 64=5 by kernel_rfl] at Y;obtain⟨k,rfl,Z⟩:=Nu U;obtain⟨_,ab,X⟩:=World.cells?_some Y;refine⟨k,Z,fun j u M=>?_⟩;have hj:j<5:=(gS M).1;have N:=X j hj;rw[M,Go.Deep.add_add] at N;have F:=vJ N;rw[F] at N;exact⟨N,F⟩
  obtain⟨l,J,z⟩:=Cq len key;refine⟨some a,cap,l,by rw[J];exact y,⟨ox wJ l,fun hn=>?_⟩,fun x K=>?_,by rw[J];unfold maxLen at hm;omega⟩
  ·obtain⟨x0,R⟩:∃ x,l[0]?=some x:=⟨_,gG hn⟩
   refine⟨a.block,a.off,?_,fun j u M=>?_⟩
   ·have F:=((z 0 x0 R).2 0 _ rfl).2;simp only[Nat.zero_mul,Nat.zero_add,Addr.add,if_pos,Nat.add_zero] at F;rw[<-F]
   ·obtain⟨i,k,x,K,Z,rfl,V⟩:=FH wJ (by decide) l j u M;exact((z i x K).2 k u V).1
  ·obtain⟨i,I,rfl⟩:=List.getElem_of_mem K;exact(z i _ (gG I)).1
end
end
end Go.Proofs.YtkmjcombhjombaaGreatDoor
