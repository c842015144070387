/- A part of the proof. -/
import Derived.Test.YtkmjcombhjombaaGreatDoorK13
set_option maxRecDepth 100000
set_option maxHeartbeats 20000000
set_option linter.unusedVariables false
set_option linter.unusedSimpArgs false
namespace Go.Proofs.YtkmjcombhjombaaGreatDoor
variable{s:BA}{fmt:Int}{a l r:LU}{b c k lo n:Nat}{A:Option Addr}{bad:Option Nat}{p:Prop}{x:UInt8}{w w' wr:World}
section
open Go.RowKit Go.Deep
theorem pY {base j:Nat}{e:TypeId}{size:Nat}{xs:List Value}{v:Value}(h:w.ownsRow base e size (.slice A n c) n xs)(hb:b<base):(w.setCell ⟨b,j,none⟩ v).ownsRow base e size (.slice A n c) n xs:=by
 have z:w.grownBy (w.setCell ⟨b,j,none⟩ v) (some b):=ji (World.grownBy.refl w (some b)) (.inl rfl) _;refine h.kept z ?_;cases hq:(Value.slice A n c).ownBlock with
 | none=>exact .inl rfl
 | some q=>right;intro y;injection y with y;have:=(h.lt q hq).1;omega
theorem Dj (s:BA)(w:World)(hG:QN w)(hs:s.size<=4294967280):Calls Tryz.prog 60 #[.string s] w (On (mq (bl s)) w):=by
 obtain⟨i0,al,ao,an,am⟩:=info_parts Hn;have HG:=iV hG;clear hG;go_in;go_wp2;go_loopw [4,5] (fun l p wr=>∃ (L:List mo) (A:Option Addr) (n c k f:Nat),l=.slice A n c/\p=.int .i64 k/\k<=s.size/\n<=64/\Hid (Gr w wr L A n c)/\Hid (mq (bl s)=uC (f+1) L ((bl s).drop k))/\Hid (s.size-k<=f)) (fun _ p _=>s.size-(intOf p).toNat)
 case atStart=>exact⟨[],none,0,0,0,s.size,rfl,rfl,z0,by omega,Gr.start w,by show _=_;rw[List.drop_zero,<-iX];exact N6 _,lr⟩
 case round=>
  obtain⟨L,A,n,c,k,f,rfl,rfl,hk,hn,I,HN,HF⟩:=hrel;by_cases ac:k<s.size
  ·have HD:Hid ((bl s).drop k=s[k]::(bl s).drop (k+1)):=by
    show _=_;rw[List.drop_eq_getElem_cons (by rw[iX];exact ac),qt s k ac]
   obtain⟨d,hd⟩:∃ d:UInt8,s[k]=d:=⟨_,rfl⟩
   rw[hd] at HD;by_cases N:d.toNat=32
   ·have ah:d=32:=UInt8.toNat_inj.1 N;have O:Hid (mq (bl s)=uC (f+1) L ((bl s).drop (k+1))):=by show _=_;rw[HN.out,HD.out,ah,N7]
    have U:Hid (s.size-(k+1)<=f):=by have:=HF.out;show _<=_;omega
    clear ah;go_wp2;go_roundw
    case rel=>exact⟨L,A,n,c,k+1,f,rfl,by go_num,by omega,hn,I,O,U⟩
    case measure=>simp[intOf];omega
   ·obtain⟨R,hR⟩:∃ R,s.extract k s.size=R:=⟨_,rfl⟩
    have V:bl R=(bl s).drop k:=by rw[<-hR,lm]
    have av:R.size=s.size-k:=by rw[<-iX,V,List.length_drop,iX]
    obtain⟨J,Y⟩:∃ J,pA R ⟨#[32]⟩=J:=⟨_,rfl⟩
    have X:bl J=((bl s).drop k).take (jo me ((bl s).drop k)):=by
     rw[<-Y,<-V,<-Yv];unfold pA;rw[pd];rfl
    have H:me (((bl s).drop k).headD 32)=true:=by
     rw[HD.out];simp only[List.headD_cons,me];simp;intro e;exact N (by rw[e];rfl)
    have M:J.size=jo me ((bl s).drop k):=by
     rw[<-iX,X,List.length_take];have:=pm me ((bl s).drop k);omega
    have au:0<J.size:=by
     rw[M,HD.out];have:me d=true:=by rw[HD.out] at H;exact H
     simp[jo,this]
    have ar:J.size<=s.size-k:=by
     rw[M];have:=pm me ((bl s).drop k);rw[List.length_drop,iX] at this;exact this
    have HK:=iV H;have aj:=iV X;have ap:=iV M;clear H X M V;have aq:(k:Int)<=(s.size:Int):=by omega
    go_wp2_with fail;refine(kH R ⟨#[32]⟩ _ (HG.out.1.below I.out.bel) (by omega)).mono ?_;rintro e w1 ⟨rfl,ag⟩;rw[Y];have z:=iV (I.out.below ag);clear ag Y hR;by_cases ak:n=64
    ·have E:Hid (mq (bl s)=none):=by
      show _=_;rw[HN.out];exact N8 HK.out (by rw[z.out.len];exact ak)
     have af:((n:Int)==64)=true:=by simp;omega
     have r0:=z.out.ret.cell 0 _ rfl;have r1:=z.out.ret.cell 1 _ rfl;have r2:=z.out.ret.cell 2 _ rfl;have ad:=z.out.ret.free 0 (by simp);have ab:=z.out.ret.free 1 (by simp);have Z:=z.out.ret.free 2 (by simp);go_wp2_with fail;refine bodyPost_ret (v:=.tuple #[.slice none 0 0,.agg #[.string ⟨#[]⟩,.int .i64 k,.int .i64 4]]) (by simp[results,Tryz.results60,go_sem,r0,r1,r2]) rfl ?_;refine⟨none,0,0,⟨#[]⟩,k,4,rfl,?_,by rw[E.out];exact⟨by decide,rfl,rfl⟩⟩;exact jb (jb (jb z.out.bel lr _) lr _) lr _
    have af:((n:Int)==64)=false:=by simp;omega
    go_wp2_with fail;refine(Od J _ (HG.out.1.below z.out.bel) (by omega)).mono ?_;rintro e w2 ⟨D,ae⟩;have K:=iV (z.out.below ae);clear ae;cases hw:oR (bl J) with
    | none=>
     rw[hw] at D;obtain⟨a,y,hy,rfl⟩:=D;have E:Hid (mq (bl s)=none):=by
      show _=_;rw[HN.out];exact Sp HK.out (by rw[<-aj.out];exact hw)
     have HY:=Gb.mk hy;clear hw hy;unfold Hm;go_wp2_with fail;have ai:=iV (K.out.below (bR.alloc lr (.cells #[.bool false,.string ⟨#[]⟩,.int .i64 0,.string ⟨#[]⟩] 142)));refine(Jy a y k _ (HG.out.below ai.out.bel)).mono ?_;rintro e w4 ⟨⟨q,rfl⟩,aa⟩;have F:=iV (ai.out.below aa);clear aa;have r0:=F.out.ret.cell 0 _ rfl;have r1:=F.out.ret.cell 1 _ rfl;have r2:=F.out.ret.cell 2 _ rfl;have ad:=F.out.ret.free 0 (by simp);have ab:=F.out.ret.free 1 (by simp);have Z:=F.out.ret.free 2 (by simp);unfold nC;go_wp2_with fail;refine bodyPost_ret (v:=.tuple #[.slice none 0 0,.agg #[.string ⟨#[]⟩,.int .i64 q,.int .i64 y]]) (by simp[results,Tryz.results60,go_sem,r0,r1,r2]) rfl ?_;refine⟨none,0,0,⟨#[]⟩,q,y,rfl,?_,by rw[E.out];exact⟨HY.out,rfl,rfl⟩⟩;exact jb (jb (jb F.out.bel lr _) lr _) lr _
    | some x=>
     rw[hw] at D;obtain rfl:=D;have O:Hid (mq (bl s)=uC (f-1+1) (L++[x]) ((bl s).drop (k+J.size))):=by
      have hf:=HF.out;show _=_;rw[HN.out,Sq HK.out (by rw[K.out.len];exact ak) (by rw[<-aj.out];exact hw),List.drop_drop,ap.out,show f-1+1=f by omega]
     have U:Hid (s.size-(k+J.size)<=f-1):=by have:=HF.out;show _<=_;omega
     clear hw;unfold mo.val;go_wp2_with (at_builtin;refine je _ rfl _ _ _ rfl (w.heap.size+1) 142 i0 _ 4 48 Tryz.underlying87 al ao an am rfl (by omega) (.slice A n c) n _ rfl ((K.out.row.alloc _).alloc _) (w2.heap.size+1+1) (some ⟨w2.heap.size+1,0,none⟩) 1 1 x.cells rfl (by have:=Di (w2.alloc (.cells x.cells.toArray 142)) 142 (.bool x.no) (.string (ke x.name)) (.int .i64 x.op) (.string (ke x.ver));simpa [mo.cells] using this) (by simp[Value.oneCell',mo.cells]) (by simp only[maxLen];omega) (by omega) (by simp;have:=K.out.ret.sz;omega) ?_;intro v1 w3 o1 g1 a1);obtain⟨A1,c1,rfl⟩:=jk o1;have R3:=iV (K.out.grow (x:=x) o1 g1);clear o1 g1 a1;go_wp2;go_roundw
     case rel=>exact⟨L++[x],A1,n+1,c1,k+J.size,f-1,rfl,by go_num,by omega,by omega,R3,O,U⟩
     case measure=>simp[intOf];omega
  ·have E:Hid (mq (bl s)=some L):=by
    show _=_;rw[HN.out,List.drop_of_length_le (by rw[iX];omega),Vu]
   have r0:=I.out.ret.cell 0 _ rfl;have r1:=I.out.ret.cell 1 _ rfl;have r2:=I.out.ret.cell 2 _ rfl;have ad:=I.out.ret.free 0 (by simp);have ab:=I.out.ret.free 1 (by simp);have Z:=I.out.ret.free 2 (by simp);go_wp2_with fail;refine bodyPost_ret (v:=.tuple #[.slice A n c,.agg #[.string ⟨#[]⟩,.int .i64 0,.int .i64 0]]) (by simp[results,Tryz.results60,go_sem,r0,r1,r2]) rfl ?_;refine⟨A,n,c,⟨#[]⟩,0,0,rfl,?_,?_⟩
   ·exact jb (jb (jb I.out.bel lr _) lr _) lr _
   ·rw[E.out];exact⟨rfl,I.out.len.symm,jK (pY (pY (pY I.out.row (Nat.lt_succ_self _)) (Nat.lt_succ_self _)) (Nat.lt_succ_self _)) (Nat.le_succ _)⟩
end
section
open Go.RowKit
inductive iZ where
 | mk (op nm:BA) (aop:Nat) (ver:BA) (ka:Option Addr) (kc:Nat) (kids:List iZ)
def iZ.op:iZ->BA | .mk op _ _ _ _ _ _=>op
def iZ.nm:iZ->BA | .mk _ nm _ _ _ _ _=>nm
def iZ.aop:iZ->Nat | .mk _ _ a _ _ _ _=>a
def iZ.ver:iZ->BA | .mk _ _ _ v _ _ _=>v
def iZ.ka:iZ->Option Addr | .mk _ _ _ _ a _ _=>a
def iZ.kc:iZ->Nat | .mk _ _ _ _ _ c _=>c
def iZ.kids:iZ->List iZ | .mk _ _ _ _ _ _ k=>k
def iZ.cells (t:iZ):List Value:=[.string t.op,.string t.nm,.int .i64 t.aop,.string t.ver,.slice t.ka t.kids.length t.kc]
def iZ.val (t:iZ):Value:=.agg #[.string t.op,.string t.nm,.int .i64 t.aop,.string t.ver,.slice t.ka t.kids.length t.kc]
theorem yo (t:iZ):t.cells.length=5:=rfl
theorem iZ.eta (t:iZ):t=.mk t.op t.nm t.aop t.ver t.ka t.kc t.kids:=by cases t;rfl
mutual
def iZ.pl:iZ->oM
 | .mk op nm aop ver _ _ kids=>if bl op=[] then .atom (bl nm) aop (bl ver) else .node (bl op) (uv kids)
def uv:List iZ->List oM
 | []=>[]
 | t::r=>t.pl::uv r
end
theorem qf (l:List iZ):uv l=l.map iZ.pl:=by
 induction l with
 | nil=>simp[uv]
 | cons a r ih=>simp[uv,ih]
mutual
def iZ.ht:iZ->Nat
 | .mk _ _ _ _ _ _ kids=>Hz kids
def Hz:List iZ->Nat
 | []=>0
 | t::r=>max (t.ht+1) (Hz r)
end
mutual
def iZ.cnt:iZ->Nat
 | .mk _ _ _ _ _ _ []=>1
 | .mk _ _ _ _ _ _ (t::r)=>t.cnt+lK r
def lK:List iZ->Nat
 | []=>0
 | t::r=>t.cnt+lK r
end
theorem DC (t:iZ):t.ht=Hz t.kids:=by cases t;simp[iZ.ht,iZ.kids]
theorem DD {t:iZ}(h:t.kids=[]):t.cnt=1:=by cases t;simp only[iZ.kids] at h;subst h;simp[iZ.cnt]
theorem nY {t:iZ}(h:t.kids≠[]):t.cnt=lK t.kids:=by
 obtain⟨_,_,_,_,_,_,y⟩:=t;cases y with
 | nil=>exact absurd rfl h
 | cons a r=>simp[iZ.cnt,iZ.kids,lK]
theorem YB {l:List iZ}{t:iZ}(h:t∈l):t.ht+1<=Hz l:=by
 induction l with
 | nil=>simp at h
 | cons a r ih=>
  simp only[Hz];rcases List.mem_cons.1 h with rfl | h
  ·omega
  ·have:=ih h;omega
theorem JC {l:List iZ}(h:l≠[]):∃ t∈l,t.ht+1=Hz l:=by
 induction l with
 | nil=>exact absurd rfl h
 | cons a r ih=>
  simp only[Hz];by_cases y:r=[]
  ·subst y;exact⟨a,by simp,by simp[Hz]⟩
  ·obtain⟨t,ht,z⟩:=ih y;by_cases D:Hz r<=a.ht+1
   ·exact⟨a,by simp,by omega⟩
   ·exact⟨t,by simp[ht],by omega⟩
theorem VX {t k:iZ}(h:k∈t.kids):k.ht+1<=t.ht:=by rw[DC t];exact YB h
theorem Cc {t:iZ}:t.ht=0↔t.kids=[]:=by
 rw[DC];constructor
 ·intro h;by_cases y:t.kids=[]
  ·exact y
  ·obtain⟨k,_,z⟩:=JC y;omega
 ·intro h;rw[h];rfl
theorem mU (a b:List iZ):lK (a++b)=lK a+lK b:=by
 induction a with
 | nil=>simp[lK]
 | cons x r ih=>simp[lK,ih];omega
theorem QW (t:iZ):0<t.cnt:=by
 match t with
 | .mk _ _ _ _ _ _ []=>simp[iZ.cnt]
 | .mk _ _ _ _ _ _ (a::r)=>have:=QW a;simp[iZ.cnt];omega
theorem pg (l:List iZ):l.length<=lK l:=by
 induction l with
 | nil=>simp
 | cons a r ih=>have:=QW a;simp[lK];omega
theorem qT {l:List iZ}{t:iZ}(h:t∈l):t.cnt<=lK l:=by
 induction l with
 | nil=>simp at h
 | cons a r ih=>
  simp only[lK];rcases List.mem_cons.1 h with rfl | h
  ·omega
  ·have:=ih h;omega
theorem H7 {l:List iZ}{t:iZ}(h:l[k]?=some t):lK (l.take (k+1))=lK (l.take k)+t.cnt:=by
 obtain⟨y,z⟩:=gS h;rw[tS y,z,mU];simp[lK]
theorem ry (l:List iZ)(k:Nat):lK (l.take k)<=lK l:=by
 conv=>rhs;rw[<-List.take_append_drop k l,mU]
 omega
inductive kD (w:World) (lo:Nat) (bad:Option Nat):iZ->Prop
 | mk (t:iZ) (row:w.ownsRow lo 86 5 (.slice t.ka t.kids.length t.kc) t.kids.length (t.kids.flatMap iZ.cells)) (ne:∀ g,(Value.slice t.ka t.kids.length t.kc).ownBlock=some g->some g≠bad) (kids:∀ k∈t.kids,kD w lo bad k):kD w lo bad t
theorem kD.row {t:iZ}(h:kD w lo bad t):w.ownsRow lo 86 5 (.slice t.ka t.kids.length t.kc) t.kids.length (t.kids.flatMap iZ.cells):=by cases h;assumption
theorem kD.kids {t:iZ}(h:kD w lo bad t):∀ k∈t.kids,kD w lo bad k:=by cases h;assumption
theorem kD.low {t:iZ}(h:kD w lo bad t)(hb:Below w.heap.size w w'):kD w' lo bad t:=by
 induction h with
 | mk t row ne _ ih=>exact .mk t (jp row hb) ne ih
theorem kD.kept {g:Nat}{t:iZ}(h:kD w lo bad t)(hlo:g<lo)(hg:w.grownBy w' (some g)):kD w' lo bad t:=by
 induction h with
 | mk t row ne _ ih=>exact .mk t (jS row hlo hg) ne ih
theorem kD.grown {t:iZ}(h:kD w lo bad t)(hg:w.grownBy w' bad):kD w' lo bad t:=by
 induction h with
 | mk t row ne _ ih=>
  refine .mk t (row.kept hg ?_) ne ih;cases hb:(Value.slice t.ka t.kids.length t.kc).ownBlock with
  | none=>exact .inl rfl
  | some g=>exact .inr (ne g hb)
theorem kD.base {lo':Nat}{t:iZ}(h:kD w lo bad t)(hl:lo'<=lo):kD w lo' bad t:=by
 induction h with
 | mk t row ne _ ih=>exact .mk t (jK row hl) ne ih
theorem kD.any {t:iZ}(h:kD w lo bad t):kD w lo none t:=by
 induction h with
 | mk t row _ _ ih=>exact .mk t row (fun g _=>by simp) ih
theorem kD.old {bad':Option Nat}{t:iZ}(h:kD w lo bad t)(hb:∀ g,bad'=some g->g<lo\/w.heap.size<=g):kD w lo bad' t:=by
 induction h with
 | mk t row ne _ ih=>
  refine .mk t row (fun g z e=>?_) ih;have D:=row.lt g z;rcases hb g e.symm with y | y<;>omega
inductive Kh (w:World):iZ->Prop
 | mk (t:iZ) (row:Rd w 5 t.ka t.kids.length (t.kids.flatMap iZ.cells)) (kids:∀ k∈t.kids,Kh w k):Kh w t
theorem Kh.row {t:iZ}(h:Kh w t):Rd w 5 t.ka t.kids.length (t.kids.flatMap iZ.cells):=by cases h;assumption
theorem Kh.kids {t:iZ}(h:Kh w t):∀ k∈t.kids,Kh w k:=by cases h;assumption
theorem Kh.low {t:iZ}(h:Kh w t)(hb:Below w.heap.size w w'):Kh w' t:=by
 induction h with
 | mk t row _ ih=>exact .mk t (row.below hb) ih
theorem kD.rd {t:iZ}(h:kD w lo bad t):Kh w t:=by
 induction h with
 | mk t row _ _ ih=>exact .mk t (jL row) ih
theorem Kh.cell {t:iZ}(h:Kh w t)(i:Nat)(k:iZ)(hi:t.kids[i]?=some k):∃ b off,t.ka=some ⟨b,off,none⟩/\∀ (j:Nat)(u:Value),k.cells[j]?=some u->w.cell? ⟨b,off+i*5+j,none⟩=some u:=h.row.elem yo i k hi
theorem Tc {t:iZ}(h:Kh w t):∀ u:iZ,Kh w u->t.ka=u.ka->t.kids.length=u.kids.length->t.kids=u.kids:=by
 induction h with
 | mk t row kids ih=>
  intro u O X Z;apply List.ext_getElem Z;intro i U K;obtain⟨x,D⟩:∃ x,t.kids[i]?=some x:=⟨_,gG U⟩
  obtain⟨y,z⟩:∃ y,u.kids[i]?=some y:=⟨_,gG K⟩
  obtain⟨b,off,J,F⟩:=row.elem yo i x D;obtain⟨b',M,e2,I⟩:=O.row.elem yo i y z;rw[X,e2] at J;injection J with J;injection J with eb eo _;subst eb eo;have N:=(F 0 _ rfl).symm.trans (I 0 _ rfl);have R:=(F 1 _ rfl).symm.trans (I 1 _ rfl);have f2:=(F 2 _ rfl).symm.trans (I 2 _ rfl);have V:=(F 3 _ rfl).symm.trans (I 3 _ rfl);have H:=(F 4 _ rfl).symm.trans (I 4 _ rfl);simp only[Option.some.injEq,Value.string.injEq,Value.int.injEq,Value.slice.injEq,true_and] at N R f2 V H;have Y:=ih x (gM D) y (O.kids y (gM z)) H.1 H.2.1;have:x=y:=by rw[iZ.eta x,iZ.eta y,N,R,V,H.1,H.2.2,Y,show x.aop=y.aop by omega]
  rw[gG U] at D;rw[gG K] at z;injection D with D;injection z with z;rw[D,z,this]
end
section
open Go.RowKit Go.Deep
theorem YC (s:BA)(k o:Nat)(h:k<s.size)(d:UInt8)(hd:s[k]=d):qo o ((bl s).drop k)=if d==32 then 0 else if d==40 then qo (o+1) ((bl s).drop (k+1))+1 else if d==41 then (if o=0 then 0 else qo (o-1) ((bl s).drop (k+1))+1) else qo o ((bl s).drop (k+1))+1:=by
 rw[mL s k h,hd];rfl
theorem Td (s:BA)(k o:Nat)(h:¬ k<s.size):qo o ((bl s).drop k)=0:=by rw[tp s k h];rfl
theorem JD (s:BA)(p:Nat)(w:World)(hp:p<=s.size)(hs:s.size<=4294967280):Calls Tryz.prog 146 #[.string s,.int .i64 p] w fun e w'=>e=.returned (.int .i64 ((p+qo 0 ((bl s).drop p):Nat):Int))/\w=w':=by
 obtain⟨R,O⟩:∃ R,p+qo 0 ((bl s).drop p)=R:=⟨_,rfl⟩
 rw[O];have D:=iV O;clear O;go_in;go_wp2;go_loop [1,4,5] (fun i X o=>∃ k n:Nat,i=.int .i64 k/\X=.int .i64 0/\o=.int .i64 n/\k<=s.size/\n<=k/\Hid (k+qo n ((bl s).drop k)=R)) (fun i _ _=>s.size-(intOf i).toNat)
 case atStart=>exact⟨p,0,rfl,rfl,rfl,hp,z0,D⟩
 case round=>
  clear D;obtain⟨k,n,rfl,rfl,rfl,Z,Y,z⟩:=hrel;by_cases F:k<s.size
  ·obtain⟨d,U⟩:∃ d:UInt8,s[k]=d:=⟨_,rfl⟩
   have I:=iV (YC s k n F d U);have V:decide ((k:Int)<(s.size:Int))=true:=dT (by omega);cases h32:(d==32) with
   | true=>
    have M:((d.toNat:Int) != 32)=false:=by rw[bne,show((d.toNat:Int)==32)=true from(np d 32).trans h32];rfl
    have E:Hid (k=R):=by have y:=z.out;rw[I.out,h32] at y;exact y
    clear h32;go_wp2;go_ret;exact⟨jz (by rw[<-E.out]),rfl⟩
   | false=>
    have M:((d.toNat:Int) != 32)=true:=by rw[bne,show((d.toNat:Int)==32)=false from(np d 32).trans h32];rfl
    cases h40:(d==40) with
    | true=>
     have N:((d.toNat:Int)==40)=true:=(np d 40).trans h40;have H:Hid ((k+1)+qo (n+1) ((bl s).drop (k+1))=R):=by have y:=z.out;rw[I.out,h32,h40] at y;simp at y;show _=_;omega
     clear h32 h40;go_wp2;go_round
     case rel=>exact⟨k+1,n+1,by go_num,rfl,by go_num,by omega,by omega,H⟩
     case measure=>simp[intOf];omega
    | false=>
     have N:((d.toNat:Int)==40)=false:=(np d 40).trans h40;cases h41:(d==41) with
     | true=>
      have K:((d.toNat:Int)==41)=true:=(np d 41).trans h41;by_cases J:n=0
      ·have E:Hid (k=R):=by have y:=z.out;rw[I.out,h32,h40,h41,if_neg (by decide),if_neg (by decide),if_pos rfl,if_pos J] at y;exact y
       subst J;clear h32 h40 h41;go_wp2;go_ret;exact⟨jz (by rw[<-E.out]),rfl⟩
      ·have H:Hid ((k+1)+qo (n-1) ((bl s).drop (k+1))=R):=by have y:=z.out;rw[I.out,h32,h40,h41,if_neg (by decide),if_neg (by decide),if_pos rfl,if_neg J] at y;show _=_;omega
       have en:((n:Int)==0)=false:=by simp;omega
       clear h32 h40 h41;go_wp2;go_round
       case rel=>exact⟨k+1,n-1,by go_num,rfl,by congr 1;omega,by omega,by omega,H⟩
       case measure=>simp[intOf];omega
     | false=>
      have K:((d.toNat:Int)==41)=false:=(np d 41).trans h41;have H:Hid ((k+1)+qo n ((bl s).drop (k+1))=R):=by have y:=z.out;rw[I.out,h32,h40,h41,if_neg (by decide),if_neg (by decide),if_neg (by decide)] at y;show _=_;omega
      clear h32 h40 h41;go_wp2;go_round
      case rel=>exact⟨k+1,n,by go_num,rfl,rfl,by omega,by omega,H⟩
      case measure=>simp[intOf];omega
  ·have V:decide ((k:Int)<(s.size:Int))=false:=dF (by omega);have E:Hid (k=R):=by have y:=z.out;rw[Td s k n F] at y;exact y
   go_wp2;go_ret;exact⟨jz (by rw[<-E.out]),rfl⟩
def nZ:Nat->LU->List (LU)
 | 0,_=>[[]]
 | f+1,l=>if jq l=[] then [[]] else jC l::nZ f (jR l)
theorem oE (r:LU):jq (32::r)=jq r:=by unfold jq;rw[qM (by rfl)];rfl
theorem mg {c:UInt8}(h:(c==32)=false):jq (c::r)=c::r:=by
 unfold jq;rw[oK (show jN c=false from h)];rfl
theorem Lu (f:Nat)(r:LU):nZ f (32::r)=nZ f r:=by
 cases f with
 | zero=>rfl
 | succ f=>unfold nZ jC jR;rw[oE]
theorem Te (f:Nat):nZ (f+1) []=[[]]:=rfl
theorem Lv (f:Nat)(s:BA)(k:Nat)(h:k<s.size)(d:UInt8)(hd:s[k]=d)(h32:(d==32)=false):nZ (f+1) ((bl s).drop k)=((bl s).drop k).take (ym ((bl s).drop k))::nZ f ((bl s).drop (k+ym ((bl s).drop k))):=by
 have y:jq ((bl s).drop k)=(bl s).drop k:=by rw[mL s k h,hd];exact mg h32
 show(if jq ((bl s).drop k)=[] then [[]] else jC ((bl s).drop k)::nZ f (jR ((bl s).drop k)))=_;rw[if_neg (by rw[y,mL s k h];simp)];unfold jC jR;rw[y,List.drop_drop]
theorem YD (s:BA)(k:Nat)(h:k<s.size)(d:UInt8)(hd:s[k]=d):ym ((bl s).drop k)=if VT d then 1 else qo 0 ((bl s).drop k):=by
 rw[mL s k h,hd];rfl
theorem Tf (s:BA)(k:Nat)(h:k<s.size)(d:UInt8)(hd:s[k]=d)(h32:(d==32)=false):0<ym ((bl s).drop k)/\k+ym ((bl s).drop k)<=s.size:=by
 have y:jq ((bl s).drop k)=(bl s).drop k:=by rw[mL s k h,hd];exact mg h32
 have z:=DB (l:=(bl s).drop k) (by rw[y,mL s k h];simp);rw[y] at z;have D:=JB ((bl s).drop k);rw[List.length_drop,iX] at D;exact⟨z,by omega⟩
structure H8 where
 text:BA
 at_:Nat
def H8.cells (x:H8):List Value:=[.string x.text,.int .i64 x.at_]
theorem YE (x:H8):x.cells.length=2:=rfl
theorem Tg:(Tryz.prog.info? 186).map (fun i=>(i.zero,i.size,i.bytes))=some (some (.agg #[.string ⟨#[]⟩,.int .i64 0]),2,24):=by kernel_rfl
structure H9 (w wr:World) (xs:List H8) (A:Option Addr) (n c:Nat):Prop where
 len:xs.length=n
 row:wr.ownsRow w.heap.size 186 2 (.slice A n c) n (xs.flatMap H8.cells)
 bel:Below w.heap.size w wr
theorem H9.grow {w2:World}{xs:List H8}{A1:Option Addr}{c1:Nat}{o:Obj}{x:H8}(h:H9 w wr xs A n c)
  (hr:w2.ownsRow w.heap.size 186 2 (.slice A1 (n+1) c1) (n+1) (xs.flatMap H8.cells++x.cells))
  (hg:(wr.alloc o).grownBy w2 (Value.slice A n c).ownBlock):H9 w w2 (xs++[x]) A1 (n+1) c1:=by
 refine⟨by simp[h.len],by rw[List.flatMap_append];simpa using hr,?_⟩;exact(h.bel.alloc h.bel.size o).grown hg (by have:=h.bel.size;simp;omega) (fun j y=>by have:=(h.row.lt j y).1;omega)
theorem tC (w:World)(t:TypeId)(x y:Value):oP (w.alloc (.cells #[x,y] t)) (w.heap.size+1) 2 (some ⟨w.heap.size,0,none⟩) 1 [x,y]:=by
 refine⟨rfl,fun _=>⟨_,rfl,by simp,fun j u z=>?_⟩⟩
 match j,z with
 | 0,z=>simp at z;subst z;simp[Addr.add]
 | 1,z=>simp at z;subst z;simp[Addr.add]
 | j+2,z=>simp at z
def YF (s:BA)(w:World)(e:Ending)(w':World):Prop:=
 ∃ (A:Option Addr) (n c:Nat) (xs:List H8),e=.returned (.slice A n c)/\H9 w w' xs A n c/\n<=s.size+1/\xs.map (fun x=>bl x.text)=nZ (s.size+1) (bl s)/\∀ x∈xs,x.text.size<=s.size
theorem OH (s:BA)(w:World)(hs:s.size<=4294967280):Calls Tryz.prog 93 #[.string s] w (YF s w):=by
 obtain⟨i0,U,ad,X,V⟩:=info_parts Tg;go_in;go_wp2;go_loopw [3,4] (fun l i wr=>∃ (k f n c:Nat) (A:Option Addr) (D:List H8),l=.slice A n c/\i=.int .i64 k/\k<=s.size/\n<=k/\Hid (H9 w wr D A n c)/\Hid (D.map (fun x=>bl x.text)++nZ (f+1) ((bl s).drop k)=nZ (s.size+1) (bl s))/\Hid (s.size-k<=f)/\Hid (∀ x∈D,x.text.size<=s.size)) (fun _ i _=>s.size-(intOf i).toNat)
 case atStart=>exact⟨0,s.size,0,0,none,[],rfl,rfl,z0,lr,⟨rfl,World.ownsRow_nil _ _ _ _,bR⟩,rfl,lr,by simp[Hid]⟩
 case round=>
  obtain⟨k,f,n,c,A,D,rfl,rfl,hk,hn,J,HT,HF,HZ⟩:=hrel;by_cases y:k<s.size
  ·obtain⟨d,Z⟩:∃ d:UInt8,s[k]=d:=⟨_,rfl⟩
   cases h32:(d==32) with
   | true=>
    have ah:((d.toNat:Int)==32)=true:=(np d 32).trans h32;have H:Hid (D.map (fun x=>bl x.text)++nZ (f+1) ((bl s).drop (k+1))=nZ (s.size+1) (bl s)):=by
     have z:=HT.out;rw[mL s k y,Z,show d=32 by simpa using h32,Lu] at z;exact z
    have M:Hid (s.size-(k+1)<=f):=by have:=HF.out;show _<=_;omega
    clear h32;go_wp2;go_roundw
    case rel=>exact⟨k+1,f,n,c,A,D,rfl,by go_num,by omega,by omega,J,H,M,HZ⟩
    case measure=>simp[intOf];omega
   | false=>
    have ah:((d.toNat:Int)==32)=false:=(np d 32).trans h32;obtain⟨ai,ac⟩:=Tf s k y d Z h32;have TA:=iV (Lv (f-1) s k y d Z h32);have TB:=iV (Lv f s k y d Z h32);have LA:=iV (YD s k y d Z);obtain⟨m,hm⟩:∃ m,k+ym ((bl s).drop k)=m:=⟨_,rfl⟩
    have HM:=iV hm;rw[hm] at TA TB ac;have an:k<m:=by omega
    clear hm ai;obtain⟨b1,ag⟩:∃ b1,((d.toNat:Int) != 40)=b1:=⟨_,rfl⟩
    obtain⟨b2,ab⟩:∃ b2,((d.toNat:Int) != 41)=b2:=⟨_,rfl⟩
    have K:Hid (VT d=!(b1&&b2)):=by
     show _=_;rw[<-ag,<-ab,bne,bne,show((d.toNat:Int)==40)=(d==40) from np d 40,show((d.toNat:Int)==41)=(d==41) from np d 41];unfold VT;simp
    obtain⟨R,aa⟩:∃ R,(b1&&b2)=R:=⟨_,rfl⟩
    have I:=iV aa;clear aa;go_upto_region 7 with(fail)
    go_cut [27] (fun v wx=>v=.bool R/\wr=wx)
    case first=>
     cases b1 with
     | false=>
      have E:Hid (R=false):=I.out.symm;go_wp2;go_meet;exact⟨by rw[E.out],rfl⟩
     | true=>
      have E:Hid (R=b2):=I.out.symm;go_wp2;go_meet;exact⟨by rw[E.out],rfl⟩
    case rest=>
    obtain⟨rfl,rfl⟩:=hcut;clear ag ab;go_upto_if 27 with(fail)
    go_cut [5] (fun v wx=>v=.int .i64 m/\wr=wx)
    case first=>
     have af:=JD s k wr (by omega) hs;cases R with
     | false=>
      have E:Hid (m=k+1):=by have z:=HM.out;rw[LA.out,K.out,I.out] at z;exact z.symm
      go_wp2;go_meet;exact⟨by rw[E.out];rfl,rfl⟩
     | true=>
      have E:k+qo 0 ((bl s).drop k)=m:=by have z:=HM.out;rw[LA.out,K.out,I.out] at z;exact z
      rw[E] at af;clear E;go_wp2_with fail;refine af.mono ?_;rintro e w' ⟨rfl,rfl⟩;go_wp2;go_meet;exact⟨rfl,rfl⟩
    case rest=>
    obtain⟨rfl,rfl⟩:=hcut;clear K LA h32;obtain⟨Y,hY⟩:∃ Y,s.extract k m=Y:=⟨_,rfl⟩
    have ae:Hid (bl Y=((bl s).drop k).take (ym ((bl s).drop k))):=by show _=_;rw[<-hY,tT];congr 1;have:=HM.out;omega
    have ak:Hid (Y.size<=s.size):=by show _<=_;rw[<-iX,ae.out,List.length_take,List.length_drop,iX];omega
    have H:Hid ((D++[(⟨Y,k⟩:H8)]).map (fun x=>bl x.text)++nZ (f-1+1) ((bl s).drop m)=nZ (s.size+1) (bl s)):=by
     have z:=HT.out;have hf:=HF.out;have ef:f-1+1=f:=by omega
     have h2:=TA.out;rw[ef] at h2;have h3:nZ (f+1) ((bl s).drop k)=((bl s).drop k).take (ym ((bl s).drop k))::nZ f ((bl s).drop m):=TB.out;show _=_;rw[ef,<-z,h3,List.map_append,List.append_assoc];simp[ae.out]
    have M:Hid (s.size-m<=f-1):=by have:=HF.out;show _<=_;omega
    have O:Hid (∀ x∈D++[(⟨Y,k⟩:H8)],x.text.size<=s.size):=by
     intro x F;rcases List.mem_append.1 F with F | F
     ·exact HZ.out x F
     ·obtain rfl:=List.mem_singleton.1 F;exact ak.out
    have aj:n<=4294967280:=by omega
    have am:(k:Int)<=(m:Int):=by omega
    have al:(m:Int)<=(s.size:Int):=by omega
    go_wp2_with (at_builtin;refine je _ rfl _ _ _ rfl w.heap.size 186 i0 _ 2 24 Tryz.underlying180 U ad X V rfl (by omega) (.slice A n c) n _ rfl (J.out.row.alloc _) (wr.heap.size+1) (some ⟨wr.heap.size,0,none⟩) 1 1 [.string Y,.int .i64 k] rfl (tC wr _ _ _) (by simp[Value.oneCell']) (by simp only[maxLen];omega) (by omega) (by simp;have:=J.out.bel.size;omega) ?_;intro v1 w3 N g1 a1);obtain⟨A3,c3,rfl⟩:=jk N;have R3:=iV (J.out.grow (x:=⟨Y,k⟩) N g1);clear N g1 a1;go_wp2;go_roundw
    case rel=>exact⟨m,f-1,n+1,c3,A3,D++[⟨Y,k⟩],rfl,rfl,ac,by omega,R3,H,M,O⟩
    case measure=>simp[intOf];omega
  ·have H:Hid ((D++[(⟨⟨#[]⟩,s.size⟩:H8)]).map (fun x=>bl x.text)=nZ (s.size+1) (bl s)):=by
    have z:=HT.out;rw[tp s k y,Te] at z;show _=_;rw[<-z,List.map_append];rfl
   have O:Hid (∀ x∈D++[(⟨⟨#[]⟩,s.size⟩:H8)],x.text.size<=s.size):=by
    intro x F;rcases List.mem_append.1 F with F | F
    ·exact HZ.out x F
    ·obtain rfl:=List.mem_singleton.1 F;exact z0
   have aj:n<=4294967280:=by omega
   go_wp2_with (at_builtin;refine je _ rfl _ _ _ rfl w.heap.size 186 i0 _ 2 24 Tryz.underlying180 U ad X V rfl (by omega) (.slice A n c) n _ rfl (J.out.row.alloc _) (wr.heap.size+1) (some ⟨wr.heap.size,0,none⟩) 1 1 [.string ⟨#[]⟩,.int .i64 s.size] rfl (tC wr _ _ _) (by simp[Value.oneCell']) (by simp only[maxLen];omega) (by omega) (by simp;have:=J.out.bel.size;omega) ?_;intro v1 w3 N g1 a1);obtain⟨A3,c3,rfl⟩:=jk N;have R3:=iV (J.out.grow (x:=⟨⟨#[]⟩,s.size⟩) N g1);clear N g1 a1;go_wp2;go_ret;exact⟨A3,n+1,c3,D++[⟨⟨#[]⟩,s.size⟩],rfl,R3.out,by omega,H.out,O.out⟩
end
section
open Go.RowKit Go.MapKept
def iZ.key (t:iZ):Value:=.agg #[.pointer t.ka,.int .i64 t.kids.length]
theorem vr:(Tryz.prog.info? 86).map (fun i=>(i.zero,i.size,i.bytes))=some (some (.agg #[.string ⟨#[]⟩,.string ⟨#[]⟩,.int .i64 0,.string ⟨#[]⟩,.slice none 0 0]),5,80):=by kernel_rfl
theorem uN {t:iZ}(h:kD w lo bad t)(hk:t.kids≠[]):∃ g cur,t.ka=some ⟨g,0,none⟩/\w.heap[g]?=some (.cells cur 86 (0,0))/\lo<=g:=by
 rcases h.row.2 with⟨_,F⟩ | ⟨g,cap,cur,y,D,z,_⟩
 ·exact absurd (List.length_eq_zero_iff.1 F) hk
 ·injection y with y;exact⟨g,cur,y,z,D⟩
theorem V0 (w:World)(d:Nat)(a:Addr):(Op.equalIn (d+1) 364 (.pointer (some a)) (.pointer (some a))).run Tryz.prog w=.ok true w:=by
 obtain⟨D,y,_,z,_⟩:=info_parts vr;simp[Op.equalIn,run_underlying Tryz.underlying364,sizeOf,typeInfo,y,run_sameAddr_same]
theorem Th (w:World)(d:Nat){a b:Addr}{ca cb:Array Value}{ta tb:TypeId}(hne:a≠b)(ha:w.heap[a.block]?=some (.cells ca ta (0,0)))(hb:w.heap[b.block]?=some (.cells cb tb (0,0))):(Op.equalIn (d+1) 364 (.pointer (some a)) (.pointer (some b))).run Tryz.prog w=.ok false w:=by
 obtain⟨D,y,_,z,_⟩:=info_parts vr;simp[Op.equalIn,run_underlying Tryz.underlying364,sizeOf,typeInfo,y,z,run_sameAddr_other w hne ha hb]
theorem Ti {t u:iZ}(ht:kD w 0 none t)(hu:kD w 0 none u)(kt:t.kids≠[])(ku:u.kids≠[]):
  (Op.equal 366 t.key u.key).run Tryz.prog w=.ok (decide (t.ka=u.ka/\t.kids.length=u.kids.length)) w:=by
 obtain⟨z,N,M,J,_⟩:=uN ht kt;obtain⟨H,O,K,I,_⟩:=uN hu ku;unfold iZ.key Op.equal Op.maxDepth;rw[M,K];by_cases D:z=H
 ·subst D;have y:=fun d=>V0 w d ⟨z,0,none⟩;simp[go_sem,y];by_cases F:t.kids.length=u.kids.length
  ·simp[F]
  ·simp[F];omega
 ·have y:=fun d=>Th w d (a:=⟨z,0,none⟩) (b:=⟨H,0,none⟩) (fun e=>D (by injection e)) J I;simp[go_sem,y,D]
theorem vt (w:World)(em:Bool)(t:iZ):(Instr.checkKey em 10000 366 t.key).run Tryz.prog w=.ok () w:=by
 have h:∀ d:Nat,(Instr.checkKey em (d+1+1) 366 t.key).run Tryz.prog w=.ok () w:=by
  intro d;unfold iZ.key;simp[Instr.checkKey,run_underlying Tryz.underlying366,go_sem]
 exact h 9998
theorem Tj (w:World){t u:iZ}(h1:t.ka=u.ka)(h2:t.kids.length=u.kids.length):(Instr.keyThatStays t.key u.key).run Tryz.prog w=.ok u.key w:=by
 have:t.key=u.key:=by unfold iZ.key;rw[h1,h2]
 rw[this];unfold iZ.key;simp[Instr.keyThatStays,Instr.sameBits]
theorem vu (w:World)(k:Value)(es:List MapEntry):(Instr.findKey 366 k es).run Tryz.prog w=(Instr.findAsking 366 k es 0).run Tryz.prog w:=by
 cases es with
 | nil=>simp[Instr.findKey,Instr.findAsking,Instr.findNow,run_underlying Tryz.underlying366]
 | cons e r=>simp[Instr.findKey,Instr.findNow,Instr.sameNow,run_underlying Tryz.underlying366]
structure ow (w:World) (b:Nat) (ms:List (iZ×Nat)):Prop where
 ex:∃ es clock,w.heap[b]?=some (.map es clock)/\es.toList.map (fun e=>(e.key,e.val))=ms.map (fun p=>(p.1.key,Value.int .i64 p.2))
 own:∀ p∈ms,kD w 0 none p.1/\p.1.kids≠[]
theorem DF {w:World}{t:iZ}(ht:kD w 0 none t)(hk:t.kids≠[]):∀ (es:List MapEntry)(ms:List (iZ×Nat))(i:Nat),es.map (fun e=>(e.key,e.val))=ms.map (fun p=>(p.1.key,Value.int .i64 p.2))->(∀ p∈ms,kD w 0 none p.1/\p.1.kids≠[]) ->
  ((Instr.findAsking 366 t.key es i).run Tryz.prog w=.ok none w) \/
  ∃ j p,(Instr.findAsking 366 t.key es i).run Tryz.prog w=.ok (some (i+j,Value.int .i64 p.2)) w/\ms[j]?=some p/\p.1.ka=t.ka/\p.1.kids=t.kids
 | [],ms,i,_,_=>.inl (by simp[Instr.findAsking])
 | e::es,[],i,h,_=>by simp at h
 | e::es,p::ms,i,h,ho=>by
  simp only[List.map_cons,List.cons.injEq,Prod.mk.injEq] at h;obtain⟨⟨F,I⟩,N⟩:=h;obtain⟨H,M⟩:=ho p (by simp);have y:=Ti ht H hk M;by_cases z:t.ka=p.1.ka/\t.kids.length=p.1.kids.length
  ·right;refine⟨0,p,?_,rfl,z.1.symm,(Tc ht.rd p.1 H.rd z.1 z.2).symm⟩;rw[dT z] at y;simp[Instr.findAsking,F,I,y]
  ·rw[dF z] at y;rcases DF ht hk es ms (i+1) N (fun q y=>ho q (by simp[y])) with D | ⟨j,q,D,J,K⟩
   ·left;simp[Instr.findAsking,F,y,D]
   ·right;exact⟨j+1,q,by simp[Instr.findAsking,F,y,D,Nat.add_assoc,Nat.add_comm 1 j],by simpa using J,K⟩
theorem ow.look {ms:List (iZ×Nat)}(h:ow w b ms){t:iZ}(ht:kD w 0 none t)(hk:t.kids≠[]):
  ((Instr.lookup 328 (.map (some b)) t.key true).run Tryz.prog w=.ok (.tuple #[.int .i64 0,.bool false]) w) \/
  ∃ p∈ms,p.1.kids=t.kids/\(Instr.lookup 328 (.map (some b)) t.key true).run Tryz.prog w=.ok (.tuple #[.int .i64 p.2,.bool true]) w:=by
 obtain⟨H,y,D,J⟩:=h.ex;rcases DF ht hk H.toList ms 0 J h.own with z | ⟨j,p,z,F,K,I⟩
 ·left;simp[Instr.lookup,run_underlying Tryz.underlying328,MapKept.run_getObj_map D,vt,vu,z,go_sem]
 ·right;exact⟨p,gM F,I,by simp[Instr.lookup,run_underlying Tryz.underlying328,MapKept.run_getObj_map D,vt,vu,z]⟩
theorem kD.off {t:iZ}{es:Array MapEntry}(h:kD w lo bad t)(hb:w.heap[b]?=some (.map es c)):kD w lo (some b) t:=by
 induction h with
 | mk t row ne _ ih=>
  refine .mk t row (fun g y e=>?_) ih;injection e with e;subst e;rcases row.2 with⟨z,_⟩ | ⟨H,cap,F,z,_,D,_⟩
  ·rw[z] at y;simp[Value.ownBlock] at y
  ·rw[z] at y;simp[Value.ownBlock] at y;subst y;rw[hb] at D;simp at D
theorem ow.tree {ms:List (iZ×Nat)}{t:iZ}(h:ow w b ms)(ht:kD w lo none t)(hg:w.grownBy w' (some b)):kD w' lo none t:=by
 obtain⟨D,y,z,_⟩:=h.ex;exact((ht.off z).grown hg).any
theorem ow.below {ms:List (iZ×Nat)}(h:ow w b ms)(hb:Below w.heap.size w w'):ow w' b ms:=by
 obtain⟨H,y,D,F⟩:=h.ex;exact⟨⟨H,y,(hb.block b (Array.getElem?_eq_some_iff.1 D).1).trans D,F⟩,fun p z=>⟨(h.own p z).1.low hb,(h.own p z).2⟩⟩
theorem ow.lt {ms:List (iZ×Nat)}(h:ow w b ms):b<w.heap.size:=by
 obtain⟨D,y,z,F⟩:=h.ex;exact(Array.getElem?_eq_some_iff.1 z).1
theorem ow.made (w:World):ow (w.alloc (.map #[] 0)) w.heap.size []:=⟨⟨#[],0,heap_alloc_new w _,by simp⟩,by simp⟩
theorem ow.put {ms:List (iZ×Nat)}(h:ow w b ms){t:iZ}(ht:kD w 0 none t)(hk:t.kids≠[])(v:Nat):
  ∃ w' ms',(Instr.mapUpdate 328 (.map (some b)) t.key (.int .i64 v)).run Tryz.prog w=.ok () w'/\ow w' b ms'/\w.grownBy w' (some b)/\w'.heap.size=w.heap.size /\
   (∀ p∈ms',(∃ q∈ms,q=p)\/p.1.kids=t.kids/\p.2=v)/\(∀ p∈ms,∃ q∈ms',q.1=p.1)/\∃ q∈ms',q.1.kids=t.kids:=by
 obtain⟨J,y,I,N⟩:=h.ex;have ac:=h.lt;have grow:∀ o,w.grownBy { w with heap:=w.heap.setIfInBounds b o } (some b):=fun o=>⟨rfl,rfl,rfl,by simp,fun k hk Z=>(heap_set I).2 k (fun e=>Z (by rw[e]))⟩
 rcases DF ht hk J.toList ms 0 N h.own with R | ⟨j,p,R,K,h3,U⟩
 ·refine⟨{ w with heap:=w.heap.setIfInBounds b (.map (J.push { key:=t.key,val:=.int .i64 v,born:=y }) (y+1)) },ms++[(t,v)],?_,⟨⟨_,_,(heap_set I).1,by simp[N]⟩,fun p z=>?_⟩,grow _,by simp,fun p z=>?_,fun p z=>⟨p,by simp[z],rfl⟩,⟨(t,v),by simp,rfl⟩⟩
  ·simp[Instr.mapUpdate,run_underlying Tryz.underlying328,MapKept.run_getObj_map I,vt,vu,R,MapKept.run_setObj_map _ I]
  ·rcases List.mem_append.1 z with z | z
   ·exact⟨h.tree (h.own p z).1 (grow _),(h.own p z).2⟩
   ·obtain rfl:=List.mem_singleton.1 z;exact⟨h.tree ht (grow _),hk⟩
  ·rcases List.mem_append.1 z with z | z
   ·exact .inl ⟨p,z,rfl⟩
   ·obtain rfl:=List.mem_singleton.1 z;exact .inr ⟨rfl,rfl⟩
 ·simp only[Nat.zero_add] at R;obtain⟨V,ab⟩:=gS K;have O:J.size=ms.length:=by have:=congrArg List.length N;simpa using this
  have aa:J[j]?.map (fun e=>e.key)=some p.1.key:=by
   have:=congrArg (fun l=>l[j]?) N;simp[K] at this;obtain⟨e,X,h5,h6⟩:=this;rw[X];simp[h5]
  have Y:=Tj w (t:=p.1) (u:=t) h3 (by rw[U]);have M:p.1.key=t.key:=by unfold iZ.key;rw[h3,U]
  refine⟨{ w with heap:=w.heap.setIfInBounds b (.map (J.modify j fun e=>{ e with key:=t.key,val:=.int .i64 v }) y) },ms.set j (p.1,v),?_,⟨⟨_,_,(heap_set I).1,?_⟩,fun q F=>?_⟩,grow _,by simp,fun q F=>?_,fun q F=>?_,⟨(p.1,v),List.mem_set V _,U⟩⟩
  ·simp[Instr.mapUpdate,run_underlying Tryz.underlying328,MapKept.run_getObj_map I,vt,vu,R,MapKept.run_setObj_map _ I,aa,Y]
  ·apply List.ext_getElem?;intro i;have H:=congrArg (fun l=>l[i]?) N;simp only[List.getElem?_map,Array.getElem?_toList] at H;simp only[List.getElem?_map,Array.getElem?_toList,Array.getElem?_modify,List.getElem?_set];by_cases D:j=i
   ·subst D;obtain⟨e,X⟩:∃ e,J[j]?=some e:=⟨_,Array.getElem?_eq_getElem (by rw[O];exact V)⟩
    simp[V,X,M]
   ·simp[D,H]
  ·rcases List.mem_or_eq_of_mem_set F with F | rfl
   ·exact⟨h.tree (h.own q F).1 (grow _),(h.own q F).2⟩
   ·exact⟨h.tree (h.own p (gM K)).1 (grow _),(h.own p (gM K)).2⟩
  ·rcases List.mem_or_eq_of_mem_set F with F | rfl
   ·exact .inl ⟨q,F,rfl⟩
   ·exact .inr ⟨U,rfl⟩
  ·obtain⟨i,H⟩:=List.getElem?_of_mem F;by_cases D:j=i
   ·subst D;rw[K] at H;injection H with H;subst H;exact⟨(p.1,v),List.mem_set V _,rfl⟩
   ·exact⟨q,gM (i:=i) (by rw[List.getElem?_set_ne D];exact H),rfl⟩
theorem AO (f:iZ->Nat):∀ (m:Nat)(l:List (iZ×Nat)),(∀ i,i<m->∃ p∈l,f p.1=i)->m<=l.length
 | 0,_,_=>z0
 | m+1,l,h=>by
  obtain⟨p,z,F⟩:=h m (by omega);have I:=AO f m (l.filter fun q=>decide (f q.1≠m)) (fun i J=>by
   obtain⟨q,D,y⟩:=h i (by omega);exact⟨q,List.mem_filter.2 ⟨D,by simp;omega⟩,y⟩)
  have H:(l.filter fun q=>decide (f q.1≠m)).length<l.length:=List.length_filter_lt_length_iff_exists.2 ⟨p,z,by simp[F]⟩;omega
end
section
open Go.RowKit Go.Deep
theorem aa0 (k:Nat)(hk:k<6)(x:Nat->BA)(w:World):(Instr.index 324 (.agg #[.string (x 0),.string (x 1),.string (x 2),.string (x 3),.string (x 4),.string (x 5)]) (.int .i64 k)).run Tryz.prog w=.ok (.string (x k)) w:=by
 rcases(by omega:k=0\/k=1\/k=2\/k=3\/k=4\/k=5) with rfl | rfl | rfl | rfl | rfl | rfl<;>kernel_rfl
def Tn (x:Nat->BA)(l:LU):Nat->Prop:=fun k=>∀ j,j<k->bl (x j)≠l
theorem DH (k:Nat)(hk:k<6):bl (xF k)=VV k:=by
 rcases(by omega:k=0\/k=1\/k=2\/k=3\/k=4\/k=5) with rfl | rfl | rfl | rfl | rfl | rfl<;>rfl
theorem To (hk:k<6)(h:bl (xF k)=l):Lt l=k:=by
 subst h;rcases(by omega:k=0\/k=1\/k=2\/k=3\/k=4\/k=5) with rfl | rfl | rfl | rfl | rfl | rfl<;>rfl
theorem V9 (h:Tn xF l 6):Lt l=0:=by
 have z:=h 1 (by omega);have y:=h 2 (by omega);have H:=h 3 (by omega);have F:=h 4 (by omega);have D:=h 5 (by omega);rw[DH _ (by omega)] at z y H F D;unfold Lt;rw[if_neg (fun e=>z e.symm),if_neg (fun e=>y e.symm),if_neg (fun e=>H e.symm),if_neg (fun e=>F e.symm),if_neg (fun e=>D e.symm)]
theorem Ic {x:Nat->BA}(h:Tn x l k)(hn:bl (x k)≠l):Tn x l (k+1):=by
 intro j z;rcases(by omega:j<k\/j=k) with y | rfl
 ·exact h j y
 ·exact hn
theorem Lx (hk:k<6)(h:bl (GW k)=l):oD l=true:=by
 subst h;rcases(by omega:k=0\/k=1\/k=2\/k=3\/k=4\/k=5) with rfl | rfl | rfl | rfl | rfl | rfl<;>rfl
theorem OQ (h:Tn GW l 6):oD l=false:=by
 have D:=h 0 (by omega);have z:=h 1 (by omega);have y:=h 2 (by omega);have I:=h 3 (by omega);have H:=h 4 (by omega);have F:=h 5 (by omega);apply dF;rintro(e | e | e | e | e | e)
 ·exact D e.symm
 ·exact z e.symm
 ·exact y e.symm
 ·exact I e.symm
 ·exact H e.symm
 ·exact F e.symm
theorem Gz (s:BA)(w:World)(hG:Gl w):Calls Tryz.prog 201 #[.string s] w fun e w'=>e=.returned (.int .i64 (Lt (bl s)))/\w=w':=by
 have J:=hG.rsg 0 (by omega);have K:=hG.rsg 1 (by omega);have I:=hG.rsg 2 (by omega);have D:=hG.rsg 3 (by omega);have N:=hG.rsg 4 (by omega);have F:=hG.rsg 5 (by omega);clear hG;go_in;go_wp2_with fail;clear J K I D N F;go_loop [6] (fun i=>∃ k:Nat,k<=6/\i=.int .i64 k/\Hid (Tn xF (bl s) k)) (fun i=>6-(intOf i).toNat)
 case atStart=>exact⟨0,by omega,rfl,fun j R=>by omega⟩
 case round=>
  obtain⟨k,O,rfl,z⟩:=hrel;by_cases y:k<6
  ·have M:=fun W=>aa0 k y xF W;cases hq:((xF k).toList==s.toList) with
   | true=>
    have E:Hid (Lt (bl s)=k):=To y (by rw[mI] at hq;rw[dO hq]);go_wp2;go_ret;exact⟨jz (by rw[E.out]),rfl⟩
   | false=>
    have H:=iV (Ic z.out (k:=k) (by rw[mI] at hq;exact fun e=>of_decide_eq_false hq (nH e)));go_wp2;go_round
    case rel=>exact⟨k+1,by omega,by go_num,H⟩
    case measure=>simp[intOf];omega
  ·have E:Hid (Lt (bl s)=0):=V9 (by have:=z.out;rwa [show k=6 by omega] at this);go_wp2;go_ret;exact⟨jz (by rw[E.out];rfl),rfl⟩
theorem DI (s:BA)(w:World)(hG:Gl w):Calls Tryz.prog 249 #[.string s] w fun e w'=>e=.returned (.bool (oD (bl s)))/\w=w':=by
 have J:=hG.rwd 0 (by omega);have K:=hG.rwd 1 (by omega);have I:=hG.rwd 2 (by omega);have D:=hG.rwd 3 (by omega);have N:=hG.rwd 4 (by omega);have F:=hG.rwd 5 (by omega);clear hG;go_in;go_wp2_with fail;clear J K I D N F;go_loop [6] (fun i=>∃ k:Nat,k<=6/\i=.int .i64 k/\Hid (Tn GW (bl s) k)) (fun i=>6-(intOf i).toNat)
 case atStart=>exact⟨0,by omega,rfl,fun j R=>by omega⟩
 case round=>
  obtain⟨k,O,rfl,z⟩:=hrel;by_cases y:k<6
  ·have M:=fun W=>aa0 k y GW W;cases hq:((GW k).toList==s.toList) with
   | true=>
    have E:Hid (oD (bl s)=true):=Lx y (by rw[mI] at hq;rw[dO hq]);go_wp2;go_ret;exact⟨iW E.out.symm,rfl⟩
   | false=>
    have H:=iV (Ic z.out (k:=k) (by rw[mI] at hq;exact fun e=>of_decide_eq_false hq (nH e)));go_wp2;go_round
    case rel=>exact⟨k+1,by omega,by go_num,H⟩
    case measure=>simp[intOf];omega
  ·have E:Hid (oD (bl s)=false):=OQ (by have:=z.out;rwa [show k=6 by omega] at this);go_wp2;go_ret;exact⟨iW E.out.symm,rfl⟩
end
theorem Il (h:n<=999999999):(jF n).length<=9:=uU 8 n (by omega)
theorem uV {p:UInt8->Bool}(h:l.all p=true)(hr:∀ c,r.head?=some c->p c=false):jo p (l++r)=l.length:=by
 unfold jo
 induction l with
 | nil=>
  cases r with
  | nil=>rfl
  | cons a t=>rw[List.nil_append,List.takeWhile_cons_of_neg (by rw[hr a rfl];simp)]
 | cons a t ih=>
  rw[List.all_cons,Bool.and_eq_true] at h;rw[List.cons_append,List.takeWhile_cons_of_pos h.1,List.length_cons,ih h.2,List.length_cons]
theorem Mi {c:kh}(ok:c.ok)(h:x∈ko fmt c):jV x=true\/lF x=true\/x=46\/x=xy fmt:=by
 unfold ko at h;rcases List.mem_append.1 h with h | h
 ·rcases zL 46 _ x h with e | ⟨l,y,D⟩
  ·exact .inr (.inr (.inl e))
  ·obtain⟨n,_,rfl⟩:=List.mem_map.1 y;exact .inl (List.all_eq_true.1 (nz n) x D)
 ·rcases List.mem_append.1 h with h | h
  ·rcases ok.lt with e | ⟨b,e,z⟩
   ·rw[e] at h;simp at h
   ·rw[e] at h;rw[List.mem_singleton.1 h];exact .inr (.inl z)
  ·unfold qh at h;split at h
   ·simp at h
   ·rcases List.mem_cons.1 h with e | h
    ·exact .inr (.inr (.inr e))
    ·rcases List.mem_append.1 h with h | h
     ·exact .inr (.inl (List.all_eq_true.1 (Ri ok) x h))
     ·exact .inl (List.all_eq_true.1 (nz _) x h)
theorem Wu {c:kh}(ok:c.ok)(h:x∈jU fmt c):jV x=true\/lF x=true\/x=46\/x=xy fmt\/x=58\/x=45:=by
 unfold jU at h;rcases List.mem_append.1 h with h | h
 ·unfold tI at h;split at h
  ·simp at h
  ·rcases List.mem_append.1 h with h | h
   ·exact .inl (List.all_eq_true.1 (nz _) x h)
   ·exact .inr (.inr (.inr (.inr (.inl (List.mem_singleton.1 h)))))
 ·rcases List.mem_append.1 h with h | h
  ·rcases Mi ok h with h | h | h | h
   ·exact .inl h
   ·exact .inr (.inl h)
   ·exact .inr (.inr (.inl h))
   ·exact .inr (.inr (.inr (.inl h)))
  ·rcases List.mem_append.1 h with h | h
   ·unfold lQ at h;split at h
    ·rcases List.mem_cons.1 h with h | h
     ·exact .inr (.inr (.inr (.inr (.inr h))))
     ·rw[List.mem_singleton.1 h];exact .inr (.inl (by decide))
    ·exact .inr (.inr (.inr (.inr (.inr (List.mem_singleton.1 h)))))
   ·exact .inl (List.all_eq_true.1 (nz _) x h)
theorem vz (n:Nat):∃ d r,jF n=d::r/\jV d=true:=by
 cases e:jF n with
 | nil=>exact absurd e (rB n)
 | cons d r=>exact⟨d,r,rfl,sV n [] d (by rw[e];rfl)⟩
theorem TT {c:kh}(h:c.nums≠[]):∃ d r,re c=d::r/\jV d=true:=by
 unfold re
 match hn:c.nums with
 | []=>exact absurd hn h
 | [n]=>exact vz n
 | n::m::L=>
  obtain⟨d,r,e,y⟩:=vz n;exact⟨d,r++46::lL 46 ((m::L).map jF),by simp only[List.map_cons,lL,e];rfl,y⟩
theorem zR {c:kh}(ok:c.ok):∃ d r,ko fmt c=d::r/\jV d=true:=by
 obtain⟨d,r,e,y⟩:=TT ok.nums;exact⟨d,r++(c.lt++qh fmt c),by unfold ko;rw[e];rfl,y⟩
theorem TU {c:kh}(ok:c.ok):∃ d r,jU fmt c=d::r/\jV d=true:=by
 unfold jU tI;split
 ·obtain⟨d,r,e,y⟩:=zR (fmt:=fmt) ok;exact⟨d,r++(lQ fmt++jF c.rev),by rw[e];rfl,y⟩
 ·obtain⟨d,r,e,y⟩:=vz c.ep;exact⟨d,r++[58]++(ko fmt c++(lQ fmt++jF c.rev)),by rw[e];simp,y⟩
theorem Im (o:LU)(n:Nat):km o (jF n)=true:=by
 obtain⟨d,r,e,_⟩:=vz n;have h:=nz n;unfold km;rw[Bool.and_eq_true];refine⟨by rw[e];rfl,List.all_eq_true.2 fun x y=>?_⟩;unfold Yf;rw[List.all_eq_true.1 h x y];simp
theorem Es {c:kh}(ok:c.ok){o:LU}(h1:o.contains 46=true)(h2:o.contains (xy fmt)=true):km o (ko fmt c)=true:=by
 obtain⟨d,r,e,_⟩:=zR (fmt:=fmt) ok;unfold km;rw[Bool.and_eq_true];refine⟨by rw[e];rfl,List.all_eq_true.2 fun x y=>?_⟩;unfold Yf sP;rcases Mi ok y with h | h | h | h
 ·rw[h];simp
 ·rw[h];simp
 ·rw[h,h1];simp
 ·rw[h,h2];simp
theorem JN {c:kh}(ok:c.ok):sy (ko fmt c)=true:=by
 obtain⟨d,r,e,y⟩:=zR (fmt:=fmt) ok;rw[e];exact y
theorem Mj {c:kh}(ok:c.ok):∃ x,oj (jU 1 c)=some x:=by
 have I:lQ 1=[45]:=rfl;have y:pF (ko 1 c++(lQ 1++jF c.rev))=some (ko 1 c,jF c.rev):=by
  rw[I,List.singleton_append];unfold pF;rw[Ij _ _ (oN _ ZM)];have z:(ko 1 c++45::jF c.rev).drop ((ko 1 c).length+1)=jF c.rev:=by simp
  have J:(ko 1 c++45::jF c.rev).take (ko 1 c).length=ko 1 c:=by simp
  simp only;rw[z,J,if_pos ⟨Im _ _,by rw[Es ok (by decide) (by decide),JN ok];rfl⟩]
 have D:(58:UInt8) ∉ ko 1 c++(lQ 1++jF c.rev):=by
  rw[List.mem_append,List.mem_append];rintro(e | e | e)
  ·exact Ci ok e
  ·rw[I] at e;simp at e
  ·exact oN _ AS e
 unfold oj;by_cases H:c.ep=0
 ·have z:tI 1 c=[]:=by unfold tI;rw[if_pos (.inr H)]
  have F:mN (jU 1 c)=some ([],ko 1 c++(lQ 1++jF c.rev)):=by
   unfold mN jU;rw[z,List.nil_append,Ek D];simp
  rw[F];simp only;rw[y];exact⟨_,rfl⟩
 ·have z:tI 1 c=jF c.ep++[58]:=by unfold tI;rw[if_neg (by simp[H])]
  have F:mN (jU 1 c)=some (jF c.ep,ko 1 c++(lQ 1++jF c.rev)):=by
   unfold mN jU;rw[z,List.append_assoc,List.singleton_append,uj _ (oN _ AS)];simp only[if_true];rw[if_pos ⟨zI _,Il ok.ep⟩]
  rw[F];simp only;rw[y];exact⟨_,rfl⟩
theorem Pk (h:n≠0):po (jF n)=false:=by
 by_cases y:n<10
 ·rw[nO y];rfl
 ·have:=Ih n (by omega)
  match e:jF n with
  | []=>rfl
  | [a]=>rfl
  | a::b::r=>rw[e] at this;simp only[List.head?_cons,ne_eq,Option.some.injEq] at this;simpa [po] using this
theorem Mk {c:kh}(ok:c.ok):∃ x,oo (jU 2 c)=some x:=by
 have I:lQ 2=[45]:=rfl;have y:sF (ko 2 c++(lQ 2++jF c.rev))=some (ko 2 c,jF c.rev):=by
  rw[I,List.singleton_append];unfold sF;rw[uj _ (Rk ok)];simp only;rw[if_pos (by rw[Es ok (by decide) (by decide),Im];rfl)]
 have D:(58:UInt8) ∉ ko 2 c++(lQ 2++jF c.rev):=by
  rw[List.mem_append,List.mem_append];rintro(e | e | e)
  ·exact Ci ok e
  ·rw[I] at e;simp at e
  ·exact oN _ AS e
 unfold oo;by_cases z:c.ep=0
 ·have H:tI 2 c=[]:=by unfold tI;rw[if_pos (.inr z)]
  have F:pU (jU 2 c)=some ([],ko 2 c++(lQ 2++jF c.rev)):=by
   unfold pU jU;rw[H,List.nil_append,Ek D];simp
  rw[F];simp only;rw[y];exact⟨_,rfl⟩
 ·have H:tI 2 c=jF c.ep++[58]:=by unfold tI;rw[if_neg (by simp[z])]
  have F:pU (jU 2 c)=some (jF c.ep,ko 2 c++(lQ 2++jF c.rev)):=by
   unfold pU jU;rw[H,List.append_assoc,List.singleton_append,uj _ (oN _ AS)];simp only[if_true];rw[if_pos ⟨zI _,Il ok.ep,Pk z⟩]
  rw[F];simp only;rw[y];exact⟨_,rfl⟩
theorem sd (hf:fmt=1\/fmt=2\/fmt=3){c:kh}(h:ll fmt c=true):kf fmt (ke (jU fmt c))=0:=by
 obtain⟨ok,_⟩:=zO h;have D:(jU fmt c).length<=64:=by unfold ll at h;simp only[Bool.and_eq_true,decide_eq_true_eq] at h;exact h.2.2
 have:∃ x,oz fmt (jU fmt c)=some x:=by
  rcases hf with rfl | rfl | rfl
  ·exact Mj ok
  ·exact Mk ok
  ·exact⟨_,Wt ok⟩
 obtain⟨x,z⟩:=this;unfold kf;rw[if_neg (fun y=>y hf),if_neg (by rw[kL];omega),lS,z];rfl
theorem Wv {c:kh}(h:rp c=true):ll 1 c=true:=by
 have y:=((vy c).1 h).short;unfold ll;rw[h,dF (by rintro⟨e,_⟩;omega),dT y];rfl
theorem Pm {b:Int}(hb:b=1\/b=2\/b=3){v:BA}{t:LU}(h:trans 1 b v=(t,0)):
  ∃ c,ll b c=true/\t=jU b c/\jU 1 c=bl v/\kf 1 v=0/\uw 1 (bl v)=some c/\kf b (ke t)=0/\trans b 1 (ke t)=(bl v,0):=by
 unfold trans at h;rw[if_neg (by rintro(x | x);exact x (.inl rfl);exact x hb)] at h;by_cases F:kf 1 v=0
 ·rw[if_neg (by simpa using F)] at h;cases hp:uw 1 (bl v) with
  | none=>rw[hp] at h;injection h with _ h;cases h
  | some c=>
   rw[hp] at h;simp only at h;unfold zN at h;split at h
   ·rename_i z;injection h with h1 _;obtain⟨J,D⟩:=Ik hp;have y:=sd hb z;refine⟨c,z,h1.symm,D,F,rfl,by rw[<-h1];exact y,?_⟩;have I:=(En hb y).1;rw[lS] at I;have H:=Rm hb I z rfl;unfold trans;rw[if_neg (by rintro(x | x);exact x hb;exact x (.inl rfl)),<-h1,if_neg (by rw[y];simp),lS,H];simp only;unfold zN;rw[if_pos (by unfold ll at z;rw[Bool.and_eq_true] at z;exact Wv z.1),D]
   ·injection h with _ h;cases h
 ·rw[if_pos F] at h;injection h with _ h;exact absurd h F
section
open Go.RowKit Go.Sort
structure Ps (w:World):Prop where
 gl:Gl w
 prs:∀ i,i<4->w.cell? ⟨0,i,none⟩=some (.string (lR i))
 tab : Lib.TabIs Tryz.prog w "internal/strconv.uint64pow10" .u64 Lib.pow10Tab
theorem Iu : Tryz.prog.globalNamed "internal/strconv.uint64pow10" = some 10 := by kernel_rfl
theorem Ps.below (h:Ps w)(hb:Below w.heap.size w w'):Ps w':=by
 refine⟨h.gl.below hb,fun i y=>(hb.cell (World.block_lt_of_cell? _ _ (h.prs i y))).trans (h.prs i y),?_⟩;have ht:=h.tab;unfold Lib.TabIs at ht |-;refine var?_below hb Iu ?_ ht;unfold World.var? at ht;rw[Iu] at ht;simp only[Option.bind_some] at ht;apply Classical.byContradiction;intro z;rw[Array.getElem?_eq_none (by omega)] at ht;cases ht
theorem Pt (w:World)(k:Nat)(os:Array Obj):Below w.heap.size w (grow (w.drewN k) os):=
 ⟨rfl,rfl,rfl,by simp[grow,World.drewN],fun i y=>by simp[grow,World.drewN,Array.getElem?_append_left y]⟩
theorem vA (n:Nat)(w:World)(hG:Ps w)(hn:n<=4611686018427387903):Calls Tryz.prog 189 #[.int .i64 n] w fun e w'=>e=.returned (.string (tJ n))/\Below w.heap.size w w':=by
 have D:decide ((n:Int)<0)=false:=dF (by omega);have E:Hid ((⟨(Lib.itoa (n:Int)).toArray⟩:BA)=tJ n):=by
  show _=_;unfold Lib.itoa tJ;rw[if_neg (by omega),Int.toNat_natCast,Er]
 have z:=iV hG.tab;clear hG;go_in;go_wp2_with fail;refine(Tryz.strconv_Itoa n (by omega) (by omega) _ z.out).mono ?_;rintro e w' ⟨rfl,k,y,rfl⟩;rw[E.out];go_wp2;go_ret;exact⟨rfl,Pt w k y⟩
def Aa (s:BA):Nat:=if lR 0=s then 0 else if lR 1=s then 1 else if lR 2=s then 2 else if lR 3=s then 3 else 4
theorem aa2 (k:Nat)(hk:k<4)(x:Nat->BA)(w:World):(Instr.index 62 (.agg #[.string (x 0),.string (x 1),.string (x 2),.string (x 3)]) (.int .i64 k)).run Tryz.prog w=.ok (.string (x k)) w:=by
 rcases(by omega:k=0\/k=1\/k=2\/k=3) with rfl | rfl | rfl | rfl<;>kernel_rfl
theorem WB (hk:k<4)(hn:∀ j,j<k->¬ lR j=s)(h:lR k=s):Aa s=k:=by
 unfold Aa;rcases(by omega:k=0\/k=1\/k=2\/k=3) with rfl | rfl | rfl | rfl
 ·rw[if_pos h]
 ·rw[if_neg (hn 0 (by omega)),if_pos h]
 ·rw[if_neg (hn 0 (by omega)),if_neg (hn 1 (by omega)),if_pos h]
 ·rw[if_neg (hn 0 (by omega)),if_neg (hn 1 (by omega)),if_neg (hn 2 (by omega)),if_pos h]
theorem TZ (hn:∀ j,j<4->¬ lR j=s):Aa s=4:=by
 unfold Aa;rw[if_neg (hn 0 (by omega)),if_neg (hn 1 (by omega)),if_neg (hn 2 (by omega)),if_neg (hn 3 (by omega))]
theorem Ua (s:BA):decide (Aa s<4)=nG.contains (bl s):=by
 have z:nG=[bl (lR 0),bl (lR 1),bl (lR 2),bl (lR 3)]:=rfl;rw[bI,decide_eq_true_iff,z,List.contains_iff_mem];simp only[List.mem_cons,List.not_mem_nil,or_false];have y:∀ k,bl s=bl (lR k)↔lR k=s:=fun k=>⟨fun e=>(nH e).symm,fun e=>by rw[e]⟩
 rw[y 0,y 1,y 2,y 3];unfold Aa
 repeat' split
 all_goals simp_all
theorem yD (s:BA)(w:World)(hG:Ps w):Calls Tryz.prog 187 #[.string s] w fun e w'=>e=.returned (.int .i64 (Aa s))/\w=w':=by
 have N:=hG.prs 0 (by omega);have K:=hG.prs 1 (by omega);have J:=hG.prs 2 (by omega);have H:=hG.prs 3 (by omega);clear hG;go_in;go_wp2_with fail;clear N K J H;go_loop [6] (fun i=>∃ k:Nat,k<=4/\i=.int .i64 k/\Hid (∀ j,j<k->¬ lR j=s)) (fun i=>4-(intOf i).toNat)
 case atStart=>exact⟨0,by omega,rfl,iV (fun j F=>by omega)⟩
 case round=>
  obtain⟨k,O,rfl,z⟩:=hrel;by_cases y:k<4
  ·have M:=fun W=>aa2 k y lR W;cases hE:((lR k).toList==s.toList)
   ·have D:Hid (¬ lR k=s):=by show ¬ _;rw[mI] at hE;exact of_decide_eq_false hE
    go_wp2;go_round
    case rel=>exact⟨k+1,by omega,by go_num,iV (fun j F=>by
     by_cases e:j=k
     ·subst e;exact D.out
     ·exact z.out j (by omega))⟩
    case measure=>simp[intOf];omega
   ·have I:Hid (lR k=s):=by show _=_;rw[mI] at hE;exact dO hE
    go_wp2;go_ret;exact⟨jz (by rw[WB y z.out I.out]),rfl⟩
  ·go_wp2;go_ret;exact⟨jz (by rw[TZ (fun j F=>z.out j (by omega))];rfl),rfl⟩
end
section
open Go.RowKit
structure kU where
 ep:Nat
 na:Option Addr
 nc:Nat
 nums:List Nat
 lt:BA
 pre:BA
 pnum:Nat
 rev:Nat
def kU.plain (c:kU):kh:=⟨c.ep,c.nums,bl c.lt,bl c.pre,c.pnum,c.rev⟩
def kI (l:List Nat):List Value:=l.map fun (n:Nat)=>Value.int .i64 (n:Int)
def kU.cells (c:kU):List Value:=[.int .i64 c.ep,.slice c.na c.nums.length c.nc,.string c.lt,.string c.pre,.int .i64 c.pnum,.int .i64 c.rev]
def kU.val (c:kU):Value:=.agg #[.int .i64 c.ep,.slice c.na c.nums.length c.nc,.string c.lt,.string c.pre,.int .i64 c.pnum,.int .i64 c.rev]
def kU.ok (c:kU)(w:World):Prop:=Rd w 1 c.na c.nums.length (kI c.nums)
structure kU.few (c:kU):Prop where
 ep:c.ep<=4611686018427387903
 each:∀ n∈c.nums,n<=4611686018427387903
 len:c.nums.length<=1000
 lt:c.lt.size<=1000
 pre:c.pre.size<=1000
 pnum:c.pnum<=4611686018427387903
 rev:c.rev<=4611686018427387903
theorem Rd.num {l:List Nat}(h:Rd w 1 A l.length (kI l))(i:Nat)(x:Nat)(hi:l[i]?=some x):
  ∃ b off,A=some ⟨b,off,none⟩/\w.cell? ⟨b,off+i,none⟩=some (.int .i64 x):=by
 have y:i<l.length:=(gS hi).1;obtain⟨b,off,e,z⟩:=h.2 (by omega);exact⟨b,off,e,z i _ (by simp[kI,hi])⟩
theorem EC:∀ (L:List Nat),(∀ n∈L,n<=4611686018427387903)->(lL 46 (L.map jF)).length<=20*L.length
 | [],_=>by simp[lL]
 | [n],h=>by
  have:=uU 18 n (by have:=h n (by simp);omega);simp[lL];omega
 | n::m::L,h=>by
  have D:=uU 18 n (by have:=h n (by simp);omega);have y:=EC (m::L) (fun x z=>h x (List.mem_cons_of_mem _ z));simp only[List.map_cons,lL,List.length_append,List.length_cons] at y |-;omega
theorem YU  [Decidable p](h:false=!decide p):p:=by
 cases hd:decide p with
 | true=>exact dO hd
 | false=>rw[hd] at h;cases h
theorem WC  [Decidable p](h:true=!decide p):¬ p:=by
 cases hd:decide p with
 | false=>exact of_decide_eq_false hd
 | true=>rw[hd] at h;cases h
theorem szA (a b:BA):(a++b).size=a.size+b.size:=ByteArray.size_append
structure JS (w wr:World) (c:kU) (l:LU):Prop where
 bel:Below w.heap.size w wr
 box:jh wr w.heap.size c.cells
 bld:Bld wr (w.heap.size+1) (w.heap.size+1) l
 sz:w.heap.size+1<wr.heap.size
theorem Bld.below {B:Nat}(h:Bld w B b l)(hb:Below w.heap.size w w'):Bld w' B b l:=by
 have key:∀ p,Lib.BuilderAt 278 5 B b p (Lib.byteCells l) w->Lib.BuilderAt 278 5 B b p (Lib.byteCells l) w':=by
  rintro p ⟨D,v,z,H,F⟩;have y:b<w.heap.size:=(Array.getElem?_eq_some_iff.1 z).1;exact⟨D,v,(hb.block b y).trans z,jp H hb,F⟩
 rcases h with h | h
 ·exact .inl (key _ h)
 ·exact .inr (key _ h)
theorem JS.step {c:kU}(h:JS w wr c l)(hb:Below wr.heap.size wr w'):JS w w' c l:=
 ⟨jc h.bel hb,h.box.below hb,h.bld.below hb,Nat.lt_of_lt_of_le h.sz hb.size⟩
theorem JS.write {c:kU}{l':LU}(h:JS w wr c l)(hb:Below (w.heap.size+1) wr w')(hl:Bld w' (w.heap.size+1) (w.heap.size+1) l'):JS w w' c l':=
 ⟨h.bel.trans (hb.mono (Nat.le_succ _)),h.box.belowN hb (Nat.lt_succ_self _),hl,Nat.lt_of_lt_of_le h.sz hb.size⟩
theorem JS.start (w:World)(c:kU):JS w ((w.alloc (.cells #[.int .i64 c.ep,.slice c.na c.nums.length c.nc,.string c.lt,.string c.pre,.int .i64 c.pnum,.int .i64 c.rev] 159)).alloc (.cells #[.pointer none,.slice none 0 0] 278)) c []:=by
 refine⟨(bR.alloc lr _).alloc (by simp) _,(jh.new w c.cells _).alloc _,.inl ⟨lr,.slice none 0 0,?_,World.ownsRow_nil _ _ _ _,by simp[Value.ownBlock]⟩,by simp⟩;have:=heap_alloc_new (w.alloc (.cells #[.int .i64 c.ep,.slice c.na c.nums.length c.nc,.string c.lt,.string c.pre,.int .i64 c.pnum,.int .i64 c.rev] 159)) (.cells #[.pointer none,.slice none 0 0] 278);simpa using this
theorem JS.put {c:kU}(h:JS w wr c l)(s:BA)(hs:l.length+s.size<=1000000):Calls Tryz.prog 188 #[.pointer (some ⟨w.heap.size+1,0,none⟩),.string s] wr fun e w'=>e=.returned (.tuple #[.int .i64 s.size,.nilIface])/\JS w w' c (l++bl s)/\Below (w.heap.size+1) wr w':=
 (Ez (w.heap.size+1) (w.heap.size+1) l s wr h.bld hs (Nat.le_of_lt h.sz)).mono fun _ _ ⟨z,D,y⟩=>⟨z,h.write y D,y⟩
theorem Iv (fmt:Int)(c:kU)(w:World)(hG:Ps w)(hc:c.ok w)(hf:c.few):Calls Tryz.prog 135 #[.int .i64 fmt,c.val] w fun e w'=>e=.returned (.string ⟨(jU fmt c.plain).toArray⟩)/\Below w.heap.size w w':=by
 have HG:=iV hG;have HC:=iV hc;have D:=iV hf;clear hG hc hf;have T0:=iV (JS.start w c);obtain⟨W0,Z⟩:∃ W0,(w.alloc (.cells #[.int .i64 c.ep,.slice c.na c.nums.length c.nc,.string c.lt,.string c.pre,.int .i64 c.pnum,.int .i64 c.rev] 159)).alloc (.cells #[.pointer none,.slice none 0 0] 278)=W0:=⟨_,rfl⟩
 have R:=iV Z;clear Z;have lp:=(yB D.out.ep);have lq:=(yB D.out.pnum);have aC:=(yB D.out.rev)
 unfold kU.val;go_in;go_wp2_with fail;refine(Ep fmt _).mono ?_;rintro e w' ⟨rfl,rfl⟩;go_upto_region 3 with(fail)
 rw[R.out];have Y:Hid (JS w W0 c []):=by show JS _ _ _ _;rw[<-R.out];exact T0.out
 clear T0 R;go_cut [20] (fun s O=>∃ X:Bool,s=.bool X/\Hid (X=!decide (fmt=3\/c.ep=0))/\O=W0)
 case first=>
  have k0:=Y.out.box.cell 0 _ rfl;by_cases M:fmt=3
  ·have q:(fmt != 3)=false:=by simp[M]
   have E:Hid (false=!decide (fmt=3\/c.ep=0)):=by show _=_;simp[M]
   clear M;go_wp2;go_meet;exact⟨false,rfl,E,rfl⟩
  ·have q:(fmt != 3)=true:=by simp[M]
   by_cases V:c.ep=0
   ·have q0:((c.ep:Int) != 0)=false:=by simp[V]
    have E:Hid (false=!decide (fmt=3\/c.ep=0)):=by show _=_;simp[V]
    clear M V;go_wp2;go_meet;exact⟨false,rfl,E,rfl⟩
   ·have q0:((c.ep:Int) != 0)=true:=by simp[V]
    have E:Hid (true=!decide (fmt=3\/c.ep=0)):=by show _=_;simp[V,M]
    clear M V;go_wp2;go_meet;exact⟨true,rfl,E,rfl⟩
 case rest=>
 obtain⟨X,rfl,U,rfl⟩:=hcut;go_upto_if 20 with(fail)
 go_cut [20] (fun s O=>s=.bool X/\Hid (JS w O c (tI fmt c.plain)))
 case first=>
  cases X
  ·have E:Hid (tI fmt c.plain=[]):=by
    show _=_;unfold tI;rw[if_pos (show fmt=3\/c.plain.ep=0 from YU U.out)]
   go_wp2;go_meet;exact⟨rfl,by rw[E.out];exact Y⟩
  ·have E:Hid (tI fmt c.plain=bl (tJ c.ep++⟨#[58]⟩)):=by
    show _=_;unfold tI;rw[if_neg (show ¬ (fmt=3\/c.plain.ep=0) from WC U.out),kK,uk];rfl
   have k0:=Y.out.box.cell 0 _ rfl;go_wp2_with fail;refine(vA c.ep _ (HG.out.below Y.out.bel) D.out.ep).mono ?_;rintro e w1 ⟨rfl,H⟩;have T2:=iV (Y.out.step H);clear H k0;have ay:(tJ c.ep++⟨#[58]⟩:BA).size<=20:=by rw[szA];have:(⟨#[58]⟩:BA).size=1:=rfl;omega
   go_wp2_with fail;refine(T2.out.put _ (by rw[List.length_nil];omega)).mono ?_;rintro e w2 ⟨rfl,ae,al⟩;have K:=iV ae;clear ae al;go_wp2;go_meet;exact⟨rfl,by rw[E.out];simpa using K⟩
 case rest=>
 obtain⟨rfl,T2⟩:=hcut;clear Y U;have k1:=T2.out.box.cell 1 _ rfl;have av:=D.out.len;have aD:(tI fmt c.plain).length<=20:=by
  unfold tI;split
  ·simp
  ·rw[List.length_append];have:=iX (tJ c.plain.ep);rw[uk] at this;have h2:(tJ c.plain.ep).size<=19:=lp;simp;omega
 go_wp2;go_loopw [29] (fun i wr=>∃ k:Nat,k<=c.nums.length/\i=.int .i64 k/\Hid (JS w wr c (tI fmt c.plain++lL 46 ((c.nums.take k).map jF)))) (fun i _=>c.nums.length-(intOf i).toNat)
 case atStart=>exact⟨0,z0,rfl,iV (by simpa [lL] using T2.out)⟩
 case round=>
  clear T2 k1;obtain⟨k,hk,rfl,K⟩:=hrel;have au:=EC (c.nums.take k) (fun n hn=>D.out.each n (List.mem_of_mem_take hn));rw[List.length_take] at au;by_cases af:k<c.nums.length
  ·obtain⟨x,hx⟩:∃ x,c.nums[k]?=some x:=⟨_,gG af⟩
   have ac:=D.out.each x (gM hx);have lx:=yB ac;have HX:=iV hx;have TK:Hid ((c.nums.take (k+1)).map jF=(c.nums.take k).map jF++[jF x]):=by
    show _=_;obtain⟨an,am⟩:=gS hx;rw[tS an,am];simp
   go_upto_if 33 with(fail)
   go_cut [29] (fun s O=>s=.int .i64 k/\Hid (JS w O c (tI fmt c.plain++(if (c.nums.take k).map jF=[] then [] else lL 46 ((c.nums.take k).map jF)++[46]))))
   case first=>
    by_cases k0:0<k
    rotate_left
    ·have d1:decide ((0:Int)<(k:Int))=false:=dF (by omega);have d2:decide (0<k)=false:=dF k0;have E:Hid (tI fmt c.plain++(if (c.nums.take k).map jF=[] then [] else lL 46 ((c.nums.take k).map jF)++[46])=tI fmt c.plain++lL 46 ((c.nums.take k).map jF)):=by show _=_;(obtain rfl:k=0:=by omega);rfl
     go_wp2;go_meet;exact⟨rfl,by rw[E.out];exact K⟩
    ·have d1:decide ((0:Int)<(k:Int))=true:=dT (by omega);have d2:decide (0<k)=true:=dT (by omega);have E:Hid (tI fmt c.plain++(if (c.nums.take k).map jF=[] then [] else lL 46 ((c.nums.take k).map jF)++[46])=tI fmt c.plain++lL 46 ((c.nums.take k).map jF)++bl ⟨#[46]⟩):=by
      show _=_;rw[if_neg (by intro e;have:=congrArg List.length e;rw[List.length_map,List.length_take,List.length_nil] at this;omega),List.append_assoc];rfl
     go_wp2_with fail;refine(K.out.put ⟨#[46]⟩ (by rw[List.length_append];have aF:(⟨#[46]⟩:BA).size=1:=rfl;have:=Nat.min_le_right k c.nums.length;omega)).mono ?_;rintro e w2 ⟨rfl,I,N⟩;have F:=iV I;clear I N;go_wp2;go_meet;exact⟨rfl,by rw[E.out];exact F⟩
   case rest=>
   obtain⟨rfl,F⟩:=hcut;clear K;have k1:=F.out.box.cell 1 _ rfl;obtain⟨b,off,hA,he⟩:=(Rd.below HC.out F.out.bel).num k x hx;have ai:=fun W=>jm (T:=157) (E:=3) (sz:=1) (c:=c.nc) Tryz.underlying157 rfl Tryz.sizeOf3 hA af W;simp only[Nat.mul_one] at ai;clear hx hA;go_wp2_with fail;refine(vA x _ (HG.out.below F.out.bel) ac).mono ?_;rintro e w1 ⟨rfl,H⟩;have T5:=iV (F.out.step H);clear H k1 he ai;go_wp2_with fail;refine(T5.out.put (tJ x) (by
    rw[List.length_append];have:(if (c.nums.take k).map jF=[] then [] else lL 46 ((c.nums.take k).map jF)++[46]).length<=20*min k c.nums.length+1:=by
     split
     ·simp
     ·rw[List.length_append,List.length_singleton];omega
    have:=Nat.min_le_right k c.nums.length;omega)).mono ?_;rintro e w2 ⟨rfl,y,ad⟩
   have T6:=iV y;clear y ad;go_wp2;go_roundw
   case rel=>exact⟨k+1,by omega,by go_num,iV (by rw[TK.out,xg,<-List.append_assoc,<-uk x];exact T6.out)⟩
   case measure=>simp[intOf];omega
  ·have E:Hid (tI fmt c.plain++lL 46 ((c.nums.take k).map jF)=tI fmt c.plain++re c.plain):=by
    show _=_;unfold re;rw[tL (by omega)];rfl
   rw[E.out] at K;have nl:(re c.plain).length<=20*c.nums.length:=EC c.nums D.out.each;have aq:=D.out.lt;have ak:=D.out.pre;have k2:=K.out.box.cell 2 _ rfl;go_wp2_with fail;refine(K.out.put c.lt (by rw[List.length_append];omega)).mono ?_;rintro e w2 ⟨rfl,I,N⟩;have F:=iV I;clear I N k2;have aA:(sx fmt).size=1:=rfl;have aG:(yA fmt).size<=2:=by unfold yA lQ;split<;>decide
   have k3:=F.out.box.cell 3 _ rfl;obtain⟨pb,ab⟩:∃ pb,c.pre.toList.isEmpty=pb:=⟨_,rfl⟩
   go_upto_if 48 with(fail)
   have ah:=iV ab;clear ab;go_cut [20] (fun s O=>s=.bool X/\Hid (JS w O c (tI fmt c.plain++re c.plain++bl c.lt++qh fmt c.plain)))
   case first=>
    cases pb
    rotate_left
    ·have p0:c.pre.size=0:=by have:=ah.out;rw[iY,jB] at this;exact dO this
     have E:Hid (qh fmt c.plain=[]):=by show _=_;unfold qh;rw[if_pos (show c.plain.pre=[] from kw c.pre p0)]
     clear p0;go_wp2;go_meet;exact⟨rfl,by rw[E.out,List.append_nil];exact F⟩
    ·have ag:¬ c.pre.toList=[]:=by intro h;have:=ah.out;rw[h] at this;simp at this
     have E:Hid (qh fmt c.plain=bl (sx fmt++c.pre++tJ c.pnum)):=by
      show _=_;unfold qh;rw[if_neg (show ¬ c.plain.pre=[] by show ¬ bl c.pre=[];rw[<-iY];exact ag),kK,kK,uk];rfl
     clear ag;have k4:=F.out.box.cell 4 _ rfl;have az:(sx fmt++c.pre).size<=1001:=by rw[szA];omega
     have ax:(sx fmt++c.pre++tJ c.pnum).size<=1020:=by rw[szA];omega
     have q1:=fun W=>run_string_add_sum (P:=Tryz.prog) (w:=W) (sx fmt) c.pre (by omega);have q2:=fun W=>run_string_add_sum (P:=Tryz.prog) (w:=W) (sx fmt++c.pre) (tJ c.pnum) (by omega);have J:Hid (JS w w2.drew c (tI fmt c.plain++re c.plain++bl c.lt)):=F.out.step (bR.drew);have ao:Hid ((tI fmt c.plain++re c.plain++bl c.lt).length+(sx fmt++c.pre++tJ c.pnum).size<=1000000):=by
      show _<=_;rw[List.length_append,List.length_append,iX];omega
     go_wp2
     go_region_held3 (fun w'=>w'.cell? ⟨w.heap.size,3,none⟩=some (.string c.pre)/\w'.cell? ⟨w.heap.size,4,none⟩=some (.int .i64 c.pnum))
      (first
        | go_keep
        | exact⟨y.box.cell 3 _ rfl,y.box.cell 4 _ rfl⟩
        | exact⟨(J.out.step z).box.cell 3 _ rfl,(J.out.step z).box.cell 4 _ rfl⟩)
      (first
        | (go_at_call 189;refine(vA c.pnum w2.drew (HG.out.below J.out.bel) D.out.pnum).mono ?_;rintro e w5 ⟨rfl,z⟩)
        | (go_at_call 188;refine((J.out.step z).put (sx fmt++c.pre++tJ c.pnum) ao.out).mono ?_;rintro e w6 ⟨rfl,y,ad⟩))
     all_goals
      have T6:=iV y;go_wp2;go_meet;exact⟨rfl,by rw[E.out];exact T6⟩
   case rest=>
   obtain⟨rfl,T5⟩:=hcut;clear F k3;have k5:=T5.out.box.cell 5 _ rfl;have aH:(qh fmt c.plain).length<=1020:=by
    unfold qh;split
    ·simp
    ·have h1:(bl c.pre).length<=1000:=by rw[iX];exact ak
     have h2:(jF c.pnum).length<=19:=by have:=iX (tJ c.pnum);rw[uk] at this;omega
     show(xy fmt::(bl c.pre++jF c.pnum)).length<=1020;rw[List.length_cons,List.length_append];omega
   have aB:(bl c.lt).length<=1000:=by rw[iX];exact aq
   go_wp2_with fail;refine(vA c.rev _ (HG.out.below T5.out.bel) D.out.rev).mono ?_;rintro e w5 ⟨rfl,z⟩;have T6:=iV (T5.out.step z);clear z k5;have aE:(yA fmt++tJ c.rev).size<=21:=by rw[szA];omega
   go_wp2_with fail;refine(T6.out.put (yA fmt++tJ c.rev) (by rw[List.length_append,List.length_append,List.length_append];omega)).mono ?_;rintro e w6 ⟨rfl,aa,ap⟩;have T7:=iV aa;clear aa ap;go_wp2_with fail;refine(Tryz.Builder_String_any (w.heap.size+1) (w.heap.size+1) _ w6 T7.out.bld (Nat.le_of_lt T7.out.sz)).mono ?_;rintro e w7 ⟨rfl,aj⟩;have HE:Hid (tI fmt c.plain++re c.plain++bl c.lt++qh fmt c.plain++bl (yA fmt++tJ c.rev)=jU fmt c.plain):=by
    show _=_;unfold jU ko;rw[kK,uk,show bl (yA fmt)=lQ fmt from pd _];simp[kU.plain]
   have ar:Hid (Below w.heap.size w w7):=T7.out.bel.trans (aj.mono (Nat.le_succ _));rw[HE.out];go_wp2;go_ret;exact⟨rfl,ar.out⟩
theorem ED:(Tryz.prog.info? 3).map (fun i=>(i.zero,i.size,i.bytes))=some (some (.int .i64 0),1,8):=by kernel_rfl
theorem WD (n:Nat)(w:World)(h0:0<n)(hn:n<=100000):Calls Tryz.prog 234 #[.slice none 0 0,.int .i64 n] w fun e w'=>∃ cap,e=.returned (.slice (some ⟨w.heap.size,0,none⟩) 0 cap)/\w'.ownsRow w.heap.size 3 1 (.slice (some ⟨w.heap.size,0,none⟩) 0 cap) 0 []/\Below w.heap.size w w':=by
 obtain⟨I,N,z,K,y⟩:=info_parts ED;have R:decide ((n:Int)<0)=false:=dF (by omega);have O:decide ((0:Int)<(n:Int))=true:=dT (by omega);have U:decide (0<n)=true:=dT h0;have D:=grownCap_ge w n 0 3;have H:=grownCap_le_maxLen w n 0 3 (by unfold maxLen;omega);have F:=Lib.run_append_nil_zeros (P:=Tryz.prog) w 157 3 157 3 I (.int .i64 0) .i64 .i64 Tryz.underlying157 Tryz.underlying3 N z n h0 (by omega) (by omega) (by rw[y];omega);have J:=iV D;have M:=iV H;clear D H;go_in;go_wp2_with (at_builtin;refine Lib.wpList_append_run _ rfl _ _ _ _ rfl _ _ rfl rfl _ _ F ?_);clear F;go_wp2;go_ret;refine⟨_,rfl,⟨rfl,.inr ⟨w.heap.size,_,_,rfl,lr,heap_alloc_new w.drew _,z0,M.out,?_,?_⟩⟩,(jj bR 1).alloc lr _⟩
 ·have:=J.out;simp[size_zeroCells,Value.cells];omega
 ·simp
theorem Ro (l:List Nat):∀ u∈kI l,u.oneCell'=true:=by
 intro u y;obtain⟨n,_,rfl⟩:=List.mem_map.1 y;rfl
theorem Pu (pb:Nat)(A B:Option Addr)(c d:Nat)(xs ys:List Nat)(w:World)(h0:w.cell? ⟨pb,0,none⟩=some (.slice A xs.length c))(h1:w.cell? ⟨pb,1,none⟩=some (.slice B ys.length d))
  (hA:Rd w 1 A xs.length (kI xs))(hB:Rd w 1 B ys.length (kI ys))(n0:0<xs.length)(n1:xs.length<=1000)(n2:ys.length<=10000):Calls Tryz.prog 186 #[.slice (some ⟨pb,0,none⟩) 2 2] w fun e w'=>∃ R cap,e=.returned (.slice R (xs++ys).length cap)/\Rd w' 1 R (xs++ys).length (kI (xs++ys))/\Below w.heap.size w w':=by
 obtain⟨i0,hi,N,M,K⟩:=info_parts ED;have HA:=iV hA;have HB:=iV hB;clear hA hB;have H:=World.block_lt_of_cell? _ _ h0;have aa:∀ W,(Instr.indexAt 320 (.slice (some ⟨pb,0,none⟩) 2 2) (.int .i64 0)).run Tryz.prog W=.ok (.pointer (some ⟨pb,0,none⟩)) W:=fun W=>by
  have:=jm (T:=320) (E:=157) (sz:=1) (A:=some ⟨pb,0,none⟩) (b:=pb) (off:=0) (n:=2) (c:=2) (k:=0) Tryz.underlying320 rfl Tryz.sizeOf157 rfl (by omega) W;simpa using this
 have ab:∀ W,(Instr.indexAt 320 (.slice (some ⟨pb,0,none⟩) 2 2) (.int .i64 1)).run Tryz.prog W=.ok (.pointer (some ⟨pb,1,none⟩)) W:=fun W=>by
  have:=jm (T:=320) (E:=157) (sz:=1) (A:=some ⟨pb,0,none⟩) (b:=pb) (off:=0) (n:=2) (c:=2) (k:=1) Tryz.underlying320 rfl Tryz.sizeOf157 rfl (by omega) W;simpa using this
 go_in;go_wp2;go_loop [3,11] (fun s i=>∃ (k m:Nat),k<=2/\i=.int .i64 k/\s=.int .i64 m/\Hid (m=if k=0 then 0 else if k=1 then xs.length else xs.length+ys.length)) (fun _ i=>2-(intOf i).toNat)
 case atStart=>exact⟨0,0,by omega,rfl,rfl,rfl⟩
 case round=>
  obtain⟨k,m,hk,rfl,rfl,X⟩:=hrel;rcases(by omega:k=0\/k=1\/k=2) with rfl | rfl | rfl
  ·obtain rfl:m=0:=X.out;have q1:decide (((0:Nat):Int)+(xs.length:Int)<0)=false:=dF (by omega);have q2:decide ((xs.length:Int)<0)=false:=dF (by omega);go_wp2;go_round
   case rel=>exact⟨1,xs.length,by omega,by go_num,by go_num,rfl⟩
   case measure=>simp[intOf]
  ·obtain rfl:m=xs.length:=X.out;have q1:decide ((xs.length:Int)+(ys.length:Int)<0)=false:=dF (by omega);go_wp2;go_round
   case rel=>exact⟨2,xs.length+ys.length,by omega,by go_num,by go_num,rfl⟩
   case measure=>simp[intOf]
  ·obtain rfl:m=xs.length+ys.length:=X.out;go_wp2_with fail;refine(WD (xs.length+ys.length) _ (by omega) (by omega)).mono ?_;rintro e w1 ⟨cap,rfl,J,O⟩;have O1:=iV J;have V:=iV O;clear J O X;have g0:=(V.out.cell (p:=⟨pb,0,none⟩) H).trans h0;have g1:=(V.out.cell (p:=⟨pb,1,none⟩) H).trans h1;go_wp2;go_loopw [6,27] (fun v i wr=>∃ (k:Nat) (L:List Nat),k<=2/\i=.int .i64 k/\Hid (L=if k=0 then [] else if k=1 then xs else xs++ys)/\Hid (wr.ownsRow w.heap.size 3 1 v L.length (kI L))/\Hid (Below w.heap.size w wr)) (fun _ i _=>2-(intOf i).toNat)
   case atStart=>exact⟨0,[],by omega,rfl,rfl,O1,V⟩
   case round=>
    clear O1 V g0 g1;obtain⟨k,L,hk,rfl,HL,I,z⟩:=hrel;obtain⟨Ao,co,rfl⟩:=jk I.out;have g0:=(z.out.cell (p:=⟨pb,0,none⟩) H).trans h0;have g1:=(z.out.cell (p:=⟨pb,1,none⟩) H).trans h1;rcases(by omega:k=0\/k=1\/k=2) with rfl | rfl | rfl
    ·obtain rfl:L=[]:=HL.out;have RA:=iV ((HA.out.below z.out).reads (by omega));go_wp2_with (at_builtin;refine je _ rfl _ _ _ rfl w.heap.size 3 i0 _ 1 8 Tryz.underlying157 hi N M K rfl (by omega) (.slice Ao 0 co) 0 _ rfl I.out _ A xs.length c (kI xs) rfl RA.out (Ro xs) (by simp only[maxLen];omega) (by omega) z.out.size ?_;intro v1 U y D F);have Y:Hid (U.ownsRow w.heap.size 3 1 v1 xs.length (kI xs)):=iV (by have:=y;simpa [kI] using this);have Z:Hid (Below w.heap.size w U):=z.out.grown D z.out.size (fun q hq=>(I.out.lt q hq).1);clear y D F;go_wp2;go_roundw
     case rel=>exact⟨1,xs,by omega,by go_num,rfl,Y,Z⟩
     case measure=>simp[intOf]
    ·obtain rfl:L=xs:=HL.out;have RB:=iV ((HB.out.below z.out).reads (by omega));go_wp2_with (at_builtin;refine je _ rfl _ _ _ rfl w.heap.size 3 i0 _ 1 8 Tryz.underlying157 hi N M K rfl (by omega) (.slice Ao L.length co) L.length _ rfl I.out _ B ys.length d (kI ys) rfl RB.out (Ro ys) (by simp only[maxLen];omega) (by omega) z.out.size ?_;intro v1 U y D F);have Y:Hid (U.ownsRow w.heap.size 3 1 v1 (L++ys).length (kI (L++ys))):=iV (by have:=y;simpa [kI] using this);have Z:Hid (Below w.heap.size w U):=z.out.grown D z.out.size (fun q hq=>(I.out.lt q hq).1);clear y D F;go_wp2;go_roundw
     case rel=>exact⟨2,L++ys,by omega,by go_num,rfl,Y,Z⟩
     case measure=>simp[intOf]
    ·obtain rfl:L=xs++ys:=HL.out;go_wp2;go_ret;exact⟨Ao,co,rfl,jL I.out,z.out⟩
theorem JV (l:LU)(c:UInt8):(Lib.cut l [c]).1.length<=l.length/\(Lib.cut l [c]).2.1.length<=l.length:=I9 l [c]
theorem WF {p b:LU}(h:pF p=some (a,b)):a.length<=p.length/\b.length<=p.length:=by
 unfold pF at h;split at h
 ·split at h
  ·injection h with h;injection h with h1 h2;subst h1 h2;simp
  ·cases h
 ·split at h
  ·injection h with h;injection h with h1 h2;subst h1 h2;rw[List.length_take,List.length_drop];omega
  ·cases h
theorem WG {p b:LU}(h:sF p=some (a,b)):a.length<=p.length/\b.length<=p.length:=by
 unfold sF at h;split at h
 ·injection h with h;injection h with h1 h2;subst h1 h2;exact JV p 45
 ·cases h
theorem Ug (hf:lE fmt){b d:LU}(h:oz fmt l=some (a,b,d)):a.length<=l.length/\b.length<=l.length/\d.length<=l.length:=by
 rcases hf with rfl | rfl | rfl
 ·have h:oj l=some (a,b,d):=h;unfold oj at h;split at h
  ·cases h
  ·rename_i R p D;have U:R.length<=l.length/\p.length<=l.length:=by
    unfold mN at D;split at D
    ·split at D
     ·injection D with D;injection D with K F;subst K F;exact JV l 58
     ·cases D
    ·injection D with D;injection D with K F;subst K F;simp
   cases I:pF p with
   | none=>rw[I] at h;cases h
   | some y=>
    obtain⟨Y,y2⟩:=y;rw[I] at h;simp only[Option.map_some,Option.some.injEq,Prod.mk.injEq] at h;obtain⟨rfl,rfl,rfl⟩:=h;have:=WF I;omega
 ·have h:oo l=some (a,b,d):=h;unfold oo at h;split at h
  ·cases h
  ·rename_i R p D;have U:R.length<=l.length/\p.length<=l.length:=by
    unfold pU at D;split at D
    ·split at D
     ·injection D with D;injection D with K F;subst K F;exact JV l 58
     ·cases D
    ·injection D with D;injection D with K F;subst K F;simp
   cases I:sF p with
   | none=>rw[I] at h;cases h
   | some y=>
    obtain⟨Y,y2⟩:=y;rw[I] at h;simp only[Option.map_some,Option.some.injEq,Prod.mk.injEq] at h;obtain⟨rfl,rfl,rfl⟩:=h;have:=WG I;omega
 ·have h:rP l=some (a,b,d):=h;unfold rP at h;cases ha:xT l with
  | none=>rw[ha] at h;cases h
  | some x=>
   obtain⟨J,p,q⟩:=x;rw[ha] at h;simp only[Option.map_some,Option.some.injEq,Prod.mk.injEq] at h;obtain⟨rfl,rfl,rfl⟩:=h;refine⟨z0,?_⟩;have N:∀ k z r J t,nW k z r=some (J,t)->t.length<=r.length:=by
    intro k
    induction k with
    | zero=>intro z r J t h;cases h
    | succ k ih=>
     intro z r J t h;unfold nW at h;split at h
     ·split at h
      ·cases h
      ·have:=ih _ _ _ _ h;simp only[List.length_drop,List.length_cons] at this |-;omega
     ·injection h with h;injection h with _ F;subst F;exact Nat.le_refl _
   have M:∀ k H z l J t,pH k H z l=some (J,t)->t.length<=l.length:=by
    intro k
    induction k with
    | zero=>intro H z l J t h;cases h
    | succ k ih=>
     intro H z l J t h;unfold pH at h;split at h
     ·cases h
     ·split at h
      ·rename_i r I;have F:=ih _ _ _ _ _ h;have V:=congrArg List.length I;rw[List.length_drop,List.length_cons] at V;omega
      ·injection h with h;injection h with _ F;subst F;rename_i I;rw[List.length_drop];omega
   have O:∀ z l,(ri z l).2.length<=l.length:=by
    intro z l;unfold ri;split
    ·split<;>simp
    ·simp
   unfold xT at ha;split at ha
   ·cases ha
   ·rename_i a r Z;split at ha
    ·cases ha
    ·rename_i b t X;have K:=M _ _ _ _ _ _ Z;have F:=N _ _ _ _ _ X;have V:=O a r;unfold wK at ha;split at ha
     ·injection ha with ha;injection ha with _ ha;injection ha with h5 h6;subst h5 h6;simp
     ·split at ha
      ·injection ha with ha;injection ha with _ ha;injection ha with h5 h6;subst h5 h6;rw[List.length_take];simp only[List.length_cons] at F;omega
      ·cases ha
     ·cases ha
theorem YV (fmt:Int)(hf:lE fmt)(s:BA)(w:World)(hG:Gl w)(hs:s.size<=9223372036854775807):Calls Tryz.prog 108 #[.int .i64 fmt,.string s] w fun e w'=>∃ ep pr rv:BA,e=.returned (.tuple #[.string ep,.string pr,.string rv,.int .i64 (kf fmt s)]) /\
   (kf fmt s=0->oz fmt (bl s)=some (bl ep,bl pr,bl rv)/\s.size<=64/\ep.size<=64/\pr.size<=64/\rv.size<=64)/\Below w.heap.size w w':=by
 by_cases y:64<s.size
 ·refine(sH fmt s w hs (.inr y)).mono fun e w' ⟨D,O⟩=>⟨⟨#[]⟩,⟨#[]⟩,⟨#[]⟩,D,fun z=>?_,by rw[<-O];exact bR⟩
  unfold kf at z;rw[if_neg (fun H=>H hf),if_pos y] at z;cases z
 ·refine(sG fmt hf s w hG (by omega)).mono fun e w' ⟨ep,pr,rv,c,D,F,J⟩=>?_;have E:kf fmt s=BV (oz fmt (bl s)):=by unfold kf;rw[if_neg (fun H=>H hf),if_neg y]
  cases hx:oz fmt (bl s) with
  | none=>
   rw[hx] at F;obtain⟨rfl,rfl,rfl,rfl⟩:=F;refine⟨⟨#[]⟩,⟨#[]⟩,⟨#[]⟩,by rw[D,E,hx];rfl,fun z=>?_,J⟩;rw[E,hx] at z;cases z
  | some x=>
   obtain⟨a,b,d⟩:=x;rw[hx] at F;obtain⟨rfl,K,I,M⟩:=F;refine⟨ep,pr,rv,by rw[D,E,hx];rfl,fun _=>?_,J⟩;have N:=Ug hf hx;rw[<-K,<-I,<-M,iX,iX,iX,iX] at N;refine⟨by rw[K,I,M],by omega,by omega,by omega,by omega⟩
end
end Go.Proofs.YtkmjcombhjombaaGreatDoor
