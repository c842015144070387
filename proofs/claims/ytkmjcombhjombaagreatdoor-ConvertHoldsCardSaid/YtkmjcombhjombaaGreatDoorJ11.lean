/- A part of the proof. -/
import Derived.Test.YtkmjcombhjombaaGreatDoorJ08
import Derived.Test.YtkmjcombhjombaaGreatDoorJ10
set_option maxRecDepth 100000
set_option maxHeartbeats 20000000
set_option linter.unusedVariables false
set_option linter.unusedSimpArgs false
namespace Go.Proofs.YtkmjcombhjombaaGreatDoor
variable{l r v:LU}{xs:List BA}{c n op:Nat}{A:OA}{w wr:World}
open Go.Proofs.Tryz
section
open Go.RowKit Go.Deep
structure wm (w wr:World) (xs:List BA) (A:OA) (n c:Nat):Prop where
 len:xs.length=n
 row:wr.ownsRow w.heap.size 9 1 (.slice A n c) n (strCells xs)
 bel:Bw w wr
theorem wm.below {w':World}(h:wm w wr xs A n c)(z:Bw wr w'):wm w w' xs A n c:=
 ⟨h.len,ge h.row z,fM h.bel z⟩
theorem wm.nil (w:World):wm w w [] none 0 0:=⟨rfl,World.ownsRow_nil _ _ _ _,bR⟩
theorem wm.grow {w2:World}{A1:OA}{c1:Nat}{o:Obj}{x:BA}(h:wm w wr xs A n c)
  (F:w2.ownsRow w.heap.size 9 1 (.slice A1 (n+1) c1) (n+1) (strCells xs++[.string x]))
  (D:(wr.alloc o).grownBy w2 (Value.slice A n c).ownBlock):wm w w2 (xs++[x]) A1 (n+1) c1:=by
 refine⟨by simp[h.len],by rw[show strCells (xs++[x])=strCells xs++[.string x] by simp[strCells]];exact F,?_⟩;exact(h.bel.alloc h.bel.size o).grown D (by have:=h.bel.size;simp;omega) (fun j z=>by have:=(h.row.lt j z).1;omega)
theorem me (w:World)(t:TypeId)(a:Value):nE (w.alloc (.cells #[a] t)) (w.heap.size+1) 1 (some ⟨w.heap.size,0,none⟩) 1 [a]:=by
 refine⟨rfl,fun _=>⟨_,rfl,by simp,fun j u z=>?_⟩⟩
 match j,z with
 | 0,z=>simp at z;subst z;simp[Addr.add]
 | j+1,z=>simp at z
theorem tW {base:Nat}{e:TypeId}{size:Nat}{xs:LV}(h:w.ownsRow base e size (.slice A n c) n xs):n<=c:=by
 rcases h.2 with⟨I,H⟩ | ⟨g,cap,z,D,_,_,F,_⟩
 ·omega
 ·injection D with _ _ h3;omega
theorem pQ (z:LU)(b:Nat):∀ (l:List (LU)),(∀ x∈l,x.length<=b)->(Lib.join l z).length<=l.length*(b+z.length)
 | [],_=>by simp[Lib.join,List.intercalate]
 | [a],h=>by have:=h a (by simp);simp[Lib.join,List.intercalate];omega
 | a::c::r,h=>by
  have F:=h a (by simp);have H:=pQ z b (c::r) (fun x D=>h x (by simp at D |-;exact .inr D));have e:Lib.join (a::c::r) z=a++z++Lib.join (c::r) z:=by simp[Lib.join,List.intercalate,List.intersperse]
  rw[e,List.length_append,List.length_append,List.length_cons,Nat.succ_mul];omega
theorem jP.text_eq (x:jP)(D:x.right):bl (if x.no then (⟨#[33]⟩:BA)++(gX x.name++wU x.op++gX x.ver) else gX x.name++wU x.op++gX x.ver)=x.text:=by
 have z:x.op<7:=by have:=D.2.1;omega
 unfold jP.text;cases x.no with
 | true=>simp[iO,iS,Dn x.op z];rfl
 | false=>simp[iO,iS,Dn x.op z]
theorem Km (k:Nat):(nN k).length<=2:=by unfold nN;split<;>simp
theorem jP.text_len (x:jP)(z:x.right):x.text.length<=131:=by
 obtain⟨D,F⟩:=z.sizes;have:=Km x.op;unfold jP.text;cases x.no<;>simp<;>omega
theorem wn (A:OA)(c:Nat)(L:List jP)(hL:∀ x∈L,x.right)(aj:L.length<=64)(w:World)(hG:Gl w)(hr:Rd w 4 A L.length (L.flatMap jP.cells)):Calls prog 140 #[.slice A L.length c] w fun e w'=>e=.returned (.tuple #[.string (gX (ko L)),.int .i64 0])/\Bw w w':=by
 obtain⟨i0,ad,Z,ae,ac⟩:=info_parts tJ;have HG:=fH hG;have HR:=fH hr;have HL:=fH hL;clear hG hr hL;go_in;go_wp2_with fail;refine mb (PX A c L HL aj w HG HR) ?_;rintro w0 aa;have M:=fH aa;clear aa;go_wp2;go_loopw [5,16] (fun l i wr=>∃ (k:Nat) (D:List BA) (B:OA) (H:Nat),k<=L.length/\l=.slice B k H/\i=.int .i64 k/\Hid (wm w0 wr D B k H)/\Hid (D.map bl=(L.take k).map jP.text)) (fun _ i _=>L.length-(intOf i).toNat)
 case atStart=>exact⟨0,[],none,0,z0,rfl,rfl,wm.nil w0,rfl⟩
 case round=>
  obtain⟨k,D,B,H,hk,rfl,rfl,K,HT⟩:=hrel;by_cases V:k<L.length
  ·obtain⟨x,hx⟩:∃ x,L[k]?=some x:=⟨_,gG V⟩
   obtain⟨b,off,hA,he⟩:=(HR.below (fM M K.bel)).elem Ci k x hx;obtain⟨e0,e1,e2,e3⟩:=ZX he;simp only[Nat.add_zero] at e0;have af:=fun W=>gi (T:=87) (E:=142) (sz:=4) (c:=c) underlying87 rfl sizeOf142 hA V W;have HX:=fH (HL x (gM hx));have h7:x.op<7:=by have:=HX.2.1;omega
   have TK:Hid ((L.take (k+1)).map jP.text=(L.take k).map jP.text++[x.text]):=by
    show _=_;obtain⟨ag,ah⟩:=gS hx;rw[tS ag,ah];simp
   clear hx he hA;have K0:Hid (fV (wr.alloc (.cells #[.bool x.no,.string (gX x.name),.int .i64 x.op,.string (gX x.ver)] 142)) wr.heap.size x.cells):=fV.new wr x.cells _;have ai:=(HG.below (fM (fM M K.bel) (bR.alloc lr (.cells #[.bool x.no,.string (gX x.name),.int .i64 x.op,.string (gX x.ver)] 142)))).asg x.op h7;have S0:=fH (K.below (bR.alloc lr (.cells #[.bool x.no,.string (gX x.name),.int .i64 x.op,.string (gX x.ver)] 142)));have s1:(gX x.name).size<=64:=by rw[iB];exact HX.sizes.1
   have s2:(gX x.ver).size<=64:=by rw[iB];exact HX.sizes.2
   have s3:(wU x.op).size<=2:=by rw[<-fI,Dn x.op h7];exact Km _
   go_upto_region 8 with(fail)
   go_cut [8] (fun v wx=>v=.string (gX x.name++wU x.op++gX x.ver)/\Hid (wm w0 wx D B k H)/\Hid (fV wx wr.heap.size x.cells))
   case first=>
    go_quiet (fail);go_wp2;go_meet;exact⟨rfl,S0.below ⟨rfl,rfl,rfl,lr,fun _ _=>rfl⟩,K0.drewN _⟩
   case rest=>
   obtain⟨rfl,R,K1⟩:=hcut;clear e0 e1 e2 e3 af ai S0 K0;have c0:=K1.cell 0 _ rfl;have O:=fH (x.text_eq HX);have ak:(gX x.name++wU x.op++gX x.ver).size<=130:=by
    have h1:=HX.sizes;have h2:=Km x.op;rw[<-fI,iO,iO,iS,iS,Dn x.op h7];simp;omega
   generalize gX x.name++wU x.op++gX x.ver=Y at *;cases hno:x.no with
   | false=>
    rw[hno] at c0 O;have I:Hid (bl Y=x.text):=O.out;clear O hno;go_wp2_with (at_builtin;refine fR _ rfl _ _ _ rfl w0.heap.size 9 i0 _ 1 16 underlying33 ad Z ae ac rfl (by omega) (.slice B k H) k _ rfl (R.row.alloc _) (wc.heap.size+1) (some ⟨wc.heap.size,0,none⟩) 1 1 [.string Y] rfl (me wc _ _) (by simp[Value.oneCell']) (by simp only[maxLen];omega) (by omega) (by simp;have:=R.bel.size;omega) ?_;intro v1 w1 J g1 a1);obtain⟨A1,c1,rfl⟩:=gg J;have R1:=fH (R.grow (x:=Y) J g1);clear J g1 a1;go_wp2;go_roundw
    case rel=>exact⟨k+1,D++[Y],A1,c1,by omega,rfl,by go_num,R1,by show _=_;rw[TK.out,List.map_append,HT.out];simp[I.out]⟩
    case measure=>simp[intOf];omega
   | true=>
    rw[hno] at c0 O;have I:Hid (bl ((⟨#[33]⟩:BA)++Y)=x.text):=O.out;clear O hno;go_wp2_with (at_builtin;refine fR _ rfl _ _ _ rfl w0.heap.size 9 i0 _ 1 16 underlying33 ad Z ae ac rfl (by omega) (.slice B k H) k _ rfl (R.row.alloc _) (wc.heap.size+1) (some ⟨wc.heap.size,0,none⟩) 1 1 [.string (⟨#[33]⟩++Y)] rfl (me wc _ _) (by simp[Value.oneCell']) (by simp only[maxLen];omega) (by omega) (by simp;have:=R.bel.size;omega) ?_;intro v1 w1 J g1 a1);obtain⟨A1,c1,rfl⟩:=gg J;have R1:=fH (R.grow (x:=⟨#[33]⟩++Y) J g1);clear J g1 a1;go_wp2;go_roundw
    case rel=>exact⟨k+1,D++[⟨#[33]⟩++Y],A1,c1,by omega,rfl,by go_num,R1,by show _=_;rw[TK.out,List.map_append,HT.out];simp[I.out]⟩
    case measure=>simp[intOf];omega
  ·have X:k=L.length:=by omega
   have EX:Hid (D.map bl=L.map jP.text):=by show _=_;rw[HT.out,X,List.take_length]
   have F:=K.len;have U:=tW K.row;have JL:Hid ((Lib.join (D.map bl) (bl ⟨#[32]⟩)).length<=140737488355328):=by
    have h1:=pQ (bl ⟨#[32]⟩) 131 (D.map bl) (fun y hy=>by rw[EX.out] at hy;obtain⟨z,hz,rfl⟩:=List.mem_map.1 hy;exact z.text_len (HL z hz));have h2:(bl ⟨#[32]⟩:LU).length=1:=rfl;rw[h2,List.length_map,F] at h1;show _<=_;omega
   have HJ:=fH (fun (_:Unit)=>xG B H D ⟨#[32]⟩ wr (by rw[F];exact gR K.row) (by omega) (by omega) JL);rw[F] at HJ;clear U JL F X;go_wp2_with fail;refine mb (HJ ()) ?_;rintro w2 ab;have ET:Hid (gX (Lib.join (D.map bl) (bl ⟨#[32]⟩))=gX (ko L)):=by show _=_;rw[EX.out];rfl
   have B2:Hid (Bw w w2):=fM (fM M K.bel) ab;clear ab;go_wp2;go_ret2;exact⟨by rw[<-ET.out];rfl,B2⟩
end
section
open Go.RowKit
structure iU.good (t:iU):Prop where
 right:t.right=true
 op:t.op<=5
 ver:t.op=0->t.ver=[]
 few:t.archs.length<=1000000
structure iU.shape (t:iU) (n:Nat):Prop where
 op:t.op<=5
 ver:t.op=0->t.ver=[]
 few:t.archs.length<=n
theorem ack (l:LU):(Au l).1<=5:=by
 unfold Au;repeat' split
 all_goals simp
theorem XF (h:jn n l=some (op,v,r)):op=n/\n≠0/\r.length<=l.length:=by
 unfold jn at h;split at h
 ·cases h
 ·rename_i D;split at h
  ·cases h
  ·rename_i a b ht;unfold re at h;split at h
   ·injection h with h;injection h with h1 h;injection h with h2 h3;refine⟨h1.symm,D,?_⟩;rw[<-h3];have F:=J9 ht;have H:=ls l;have I:=ls b;have z:=ls ((gm b).drop 1);rw[List.length_drop] at z;omega
   ·cases h
theorem aah (l:LU):(Au l).2.length<=l.length:=by
 unfold Au;repeat' split
 all_goals simp
 all_goals omega
theorem MF (h:oA l=some (op,v,r)):op<=5/\(op=0->v=[])/\r.length<=l.length:=by
 unfold oA at h;split at h
 ·unfold Dc at h;obtain⟨D,z,F⟩:=XF h;refine⟨by rw[D];exact ack _,fun I=>absurd (D.symm.trans I) z,?_⟩;have J:=aah (gm (l.drop 1));have H:=ls (l.drop 1);rw[List.length_drop] at H;omega
 ·injection h with h;injection h with D h;injection h with z F;exact⟨by omega,fun _=>z.symm,by rw[F];exact Nat.le_refl _⟩
theorem IF (l:LU):(ji l).length<=l.length:=by unfold ji;split<;>simp
theorem DC:∀ (f:Nat)(l r:LU)(L:List (LU)),mB f l=some (L,r)->L.length<=l.length/\r.length<=l.length
 | 0,l,r,L,h=>by simp[mB] at h
 | f+1,l,r,L,h=>by
  unfold mB at h;split at h
  ·cases h
  ·rename_i a b H;obtain⟨x,I,_,_⟩:=Ay H;have K:=J9 I;have O:=IF l;have U:=ls b;split at h
   ·injection h with h;injection h with h2 h3;have D:=ls ((gm b).drop 1);rw[List.length_drop] at D;subst h2;subst h3;constructor
    ·simp;omega
    ·omega
   ·split at h
    ·obtain⟨⟨M,q⟩,F,z⟩:=Option.map_eq_some_iff.1 h;injection z with z h6;obtain⟨J,R⟩:=DC f (gm b) q M F;subst z;subst h6;constructor
     ·simp;omega
     ·show q.length<=_;omega
    ·cases h
theorem MG {t:iU}(h:mX l=some (t,r)):t.shape l.length/\r.length<l.length:=by
 unfold mX at h;split at h
 ·cases h
 ·rename_i nm R O;have a0:=J9 O;split at h
  ·cases h
  ·rename_i q I z;have a1:I.length<=R.length:=by
    unfold pj at z;split at z
    ·have:=J9 z;rw[List.length_drop] at this;omega
    ·injection z with z;injection z with _ z;rw[z];exact Nat.le_refl _
   have a2:=ls I;split at h
   ·cases h
   ·rename_i op v F M;obtain⟨J,U,V⟩:=MF M;split at h
    ·cases h
    ·rename_i H K D;have Y:H.length<=F.length/\K.length<=F.length:=by
      unfold nf at D;split at D
      ·obtain⟨X,Z⟩:=DC _ _ _ _ D;have:=ls (F.drop 1);rw[List.length_drop] at this;constructor<;>omega
      ·injection D with D;injection D with D h4;subst D;subst h4;simp
     injection h with h;injection h with h5 h6;subst h5;subst h6;exact⟨⟨J,U,by show H.length<=_;omega⟩,by omega⟩
theorem ws {t:iU}{m:Nat}(h:t.shape n)(z:n<=m):t.shape m:=⟨h.op,h.ver,Nat.le_trans h.few z⟩
theorem xH:∀ (f:Nat)(l r:LU)(g:List iU),ld f l=some (g,r)->g≠[]/\(∀ t∈g,t.shape l.length)/\r.length<=l.length
 | 0,l,r,g,h=>by simp[ld] at h
 | f+1,l,r,g,h=>by
  unfold ld at h;split at h
  ·cases h
  ·rename_i t I J;obtain⟨F,U⟩:=MG J;split at h
   ·obtain⟨⟨M,q⟩,H,z⟩:=Option.map_eq_some_iff.1 h;injection z with z h6;obtain⟨R,K,V⟩:=xH f _ q M H;have O:=ls (I.drop 1);rw[List.length_drop] at O;subst z;subst h6;refine⟨by simp,fun x D=>?_,by show q.length<=_;omega⟩;rcases List.mem_cons.1 D with rfl | D
    ·exact F
    ·exact ws (K x D) (by omega)
   ·injection h with h;injection h with z h6;subst z;subst h6;refine⟨by simp,fun x D=>?_,by omega⟩;obtain rfl:=List.mem_singleton.1 D;exact F
theorem vF:∀ (f:Nat)(l:LU)(L:List (List iU)),mt f l=some L->∀ g∈L,g≠[]/\∀ t∈g,t.shape l.length
 | 0,l,L,h=>by simp[mt] at h
 | f+1,l,L,h=>by
  unfold mt at h;split at h
  ·cases h
  ·rename_i U K O;obtain⟨D,F,V⟩:=xH _ _ _ _ O;split at h
   ·injection h with h;subst h;intro g z;obtain rfl:=List.mem_singleton.1 z;exact⟨D,F⟩
   ·split at h
    ·obtain⟨M,J,rfl⟩:=Option.map_eq_some_iff.1 h;have H:=ls (K.drop 1);rw[List.length_drop] at H;intro g z;rcases List.mem_cons.1 z with rfl | z
     ·exact⟨D,F⟩
     ·obtain⟨I,R⟩:=vF f _ M J g z;exact⟨I,fun t ht=>ws (R t ht) (by omega)⟩
    ·cases h
theorem MH {L:List (List iU)}(h:rN l=some L):∀ g∈L,g≠[]/\∀ t∈g,t.shape l.length:=by
 unfold rN at h;split at h
 ·injection h with h;subst h;simp
 ·intro g z;obtain⟨F,D⟩:=vF _ _ _ h g z;exact⟨F,fun t ht=>ws (D t ht) (ls _)⟩
structure pR (L:List (List iU)):Prop where
 ne:∀ g∈L,g≠[]
 good:∀ g∈L,∀ t∈g,t.good
 sum:(L.map List.length).sum<=64
theorem sO {L:List (List iU)}(h:jV l=some L)(I:l.length<=1000000):pR L:=by
 unfold jV at h;split at h
 ·cases h
 ·rename_i M J;split at h
  ·rename_i z;injection h with h;subst h;have H:=MH J;unfold Bn at z;simp only[Bool.and_eq_true,List.all_eq_true,decide_eq_true_eq] at z;refine⟨fun g D=>(H g D).1,fun g D t ht=>?_,z.2⟩;have F:=(H g D).2 t ht;exact⟨z.1 g D t ht,F.op,F.ver,Nat.le_trans F.few I⟩
  ·cases h
theorem pR.nil:pR []:=⟨by simp,by simp,by simp⟩
theorem acl {L:List (List iU)}{g:List iU}(h:g∈L):g.length<=(L.map List.length).sum:=by
 induction L with
 | nil=>simp at h
 | cons a r ih=>
  rcases List.mem_cons.1 h with rfl | h
  ·simp
  ·have:=ih h;simp;omega
theorem pR.few {L:List (List iU)}(h:pR L):L.length<=64:=by
 have H:=h.sum;have:∀ (M:List (List iU)),(∀ g∈M,g≠[])->M.length<=(M.map List.length).sum:=by
  intro M
  induction M with
  | nil=>simp
  | cons a r ih=>
   intro z;have F:=ih (fun g D=>z g (List.mem_cons_of_mem _ D));have I:0<a.length:=List.length_pos_iff.2 (z a (by simp));simp;omega
 have:=this L h.ne;omega
theorem UE (h:hH l=true):l.length<=64:=by unfold hH at h;simp at h;omega
theorem IG (h:kH l=true):l.length<=32:=by unfold kH at h;simp at h;omega
theorem UF (l:LU):l.length<=(ji l).length+1:=by unfold ji;split<;>simp;omega
structure iU.sizes (t:iU):Prop where
 nm:t.name.length<=64
 qual:t.qual.length<=32
 ver:t.ver.length<=64
 archs:∀ x∈t.archs,x.length<=33
structure iU.parts (t:iU):Prop where
 nm:hH t.name=true
 qual:t.qual=[]\/kH t.qual=true
 archs:∀ x∈t.archs,kH (ji x)=true
 ver:0<t.op->gL 1 (gX t.ver)=0
theorem iU.good.parts {t:iU}(h:t.good):t.parts:=by
 have D:=h.right;unfold iU.right at D;simp only[Bool.and_eq_true,Bool.or_eq_true,List.all_eq_true,decide_eq_true_eq,List.isEmpty_iff] at D;obtain⟨⟨⟨F,H⟩,I⟩,z⟩:=D
 exact⟨F,H,I,fun J=>by     rcases z with z | z;· omega
                           ·exact z⟩
theorem iU.good.sizes {t:iU}(h:t.good):t.sizes:=by
 have p:=h.parts;refine⟨UE p.nm,?_,?_,fun x D=>?_⟩
 ·rcases p.qual with z | z
  ·rw[z];simp
  ·exact IG z
 ·by_cases z:t.op=0
  ·rw[h.ver z];simp
  ·have:=Ix (p.ver (by omega));rw[iB] at this;exact this
 ·have:=IG (p.archs x D);have:=UF x;omega
end
end Go.Proofs.YtkmjcombhjombaaGreatDoor
