/- A part of the proof. -/
import Derived.Test.YtkmjcombhjombaaGreatDoorK02
set_option maxRecDepth 100000
set_option maxHeartbeats 20000000
set_option linter.unusedVariables false
set_option linter.unusedSimpArgs false
namespace Go.Proofs.YtkmjcombhjombaaGreatDoor
variable{s:BA}{fuel n:Nat}{v:Value}{w:World}
section
open Go.RowKit
theorem mu (c:UInt8)(w:World):Calls Tryz.prog 214 #[.int .u8 c.toNat] w fun e w'=>e=.returned (.bool (jV c))/\w=w':=by
 go_in;go_wp2
 all_goals (go_ret;refine⟨iW ?_,rfl⟩;rw[bI];simp[jV];omega)
theorem sQ (c:UInt8)(w:World):Calls Tryz.prog 218 #[.int .u8 c.toNat] w fun e w'=>e=.returned (.bool (lF c))/\w=w':=by
 go_in;go_wp2
 all_goals (go_ret;refine⟨iW ?_,rfl⟩;rw[bI];simp[lF];omega)
theorem pP (c:UInt8)(w:World):Calls Tryz.prog 264 #[.int .u8 c.toNat] w fun e w'=>e=.returned (.bool (sP c))/\w=w':=by
 cases h:lF c
 all_goals
  go_in;go_wp2_with (go_at_call 218;refine(sQ _ _).mono ?_;rintro e w' ⟨rfl,rfl⟩)
 all_goals (go_ret;refine⟨iW ?_,rfl⟩;rw[bI];simp[sP,Ye,h];try omega)
def jo (p:UInt8->Bool)(l:LU):Nat:=(l.takeWhile p).length
theorem sR {p:UInt8->Bool}:∀ (l:LU),l.all p=true->l.takeWhile p=l
 | [],_=>rfl
 | c::r,h=>by
  simp only[List.all_cons,Bool.and_eq_true] at h;rw[List.takeWhile_cons_of_pos h.1,sR r h.2]
theorem GU (p:UInt8->Bool)(s:BA)(k:Nat)(h:k<s.size)(h0:((bl s).take k).all p=true)(h1:p s[k]=false):jo p (bl s)=k:=by
 have y:k<(bl s).length:=by rw[iX];exact h
 have e:bl s=(bl s).take k++(bl s)[k]::(bl s).drop (k+1):=by rw[<-List.drop_eq_getElem_cons y,List.take_append_drop]
 unfold jo;rw[e,List.takeWhile_append_of_pos (by simpa using h0),qt s k h,List.takeWhile_cons_of_neg (by simp[h1])];simp;omega
theorem Kn (p:UInt8->Bool)(s:BA)(k:Nat)(h:¬ k<s.size)(h0:((bl s).take k).all p=true):jo p (bl s)=s.size:=by
 rw[px s k (by omega)] at h0;unfold jo;rw[sR _ h0,iX]
theorem Aw (f:FuncId)(p:UInt8->Bool)(s:BA)(w:World)(hs:s.size<=9223372036854775807)
  (hcall:∀ (args:Array Value)(w:World),(callFunc f args).run Tryz.prog w=.ok (.enter f args) w)
  (hf:Hid (∀ c:UInt8,Calls Tryz.prog f #[.int .u8 c.toNat] w fun e w'=>e=.returned (.bool (p c))/\w=w')):Calls Tryz.prog 217 #[.string s,.func (.func f) #[] #[]] w fun e w'=>e=.returned (.int .i64 (jo p (bl s)))/\w=w':=by
 go_in;go_wp2;go_loop [5] (fun i=>∃ k:Nat,k<=s.size/\i=.int .i64 k/\Hid (((bl s).take k).all p=true)) (fun i=>s.size-(intOf i).toNat)
 case atStart=>exact⟨0,z0,rfl,by simp[Hid]⟩
 case round=>
  obtain⟨k,F,rfl,D⟩:=hrel;by_cases y:k<s.size
  ·cases hl:p s[k]
   ·have z:=iV hl;clear hl;go_wp2_with fail;refine(hf.out s[k]).mono ?_;rintro e w' ⟨rfl,rfl⟩;rw[z.out];go_wp2;go_ret;exact⟨jz (by rw[GU p s k y D.out z.out]),rfl⟩
   ·have z:=iV hl;clear hl;go_wp2_with fail;refine(hf.out s[k]).mono ?_;rintro e w' ⟨rfl,rfl⟩;rw[z.out];go_wp2;go_round
    case rel=>exact⟨k+1,by omega,by go_num,by show _=_;rw[mt s k y,D.out,z.out];rfl⟩
    case measure=>simp[intOf];omega
  ·go_wp2;go_ret;exact⟨jz (by rw[Kn p s k y D.out];congr;omega),rfl⟩
theorem I8 (f:FuncId)(x:Value)(p:UInt8->Bool)(s:BA)(w:World)(hs:s.size<=9223372036854775807)
  (hcall:∀ (args:Array Value)(w:World),(callFunc f args).run Tryz.prog w=.ok (.enter f args) w)
  (hf:Hid (∀ c:UInt8,Calls Tryz.prog f #[.int .u8 c.toNat,x] w fun e w'=>e=.returned (.bool (p c))/\w=w')):Calls Tryz.prog 217 #[.string s,.func (.func f) #[] #[x]] w fun e w'=>e=.returned (.int .i64 (jo p (bl s)))/\w=w':=by
 go_in;go_wp2;go_loop [5] (fun i=>∃ k:Nat,k<=s.size/\i=.int .i64 k/\Hid (((bl s).take k).all p=true)) (fun i=>s.size-(intOf i).toNat)
 case atStart=>exact⟨0,z0,rfl,by simp[Hid]⟩
 case round=>
  obtain⟨k,F,rfl,D⟩:=hrel;by_cases y:k<s.size
  ·cases hl:p s[k]
   ·have z:=iV hl;clear hl;go_wp2_with fail;refine(hf.out s[k]).mono ?_;rintro e w' ⟨rfl,rfl⟩;rw[z.out];go_wp2;go_ret;exact⟨jz (by rw[GU p s k y D.out z.out]),rfl⟩
   ·have z:=iV hl;clear hl;go_wp2_with fail;refine(hf.out s[k]).mono ?_;rintro e w' ⟨rfl,rfl⟩;rw[z.out];go_wp2;go_round
    case rel=>exact⟨k+1,by omega,by go_num,by show _=_;rw[mt s k y,D.out,z.out];rfl⟩
    case measure=>simp[intOf];omega
  ·go_wp2;go_ret;exact⟨jz (by rw[Kn p s k y D.out];congr;omega),rfl⟩
theorem GV (s:BA)(w:World)(hs:s.size<=9223372036854775807):Calls Tryz.prog 217 #[.string s,.func (.func 214) #[] #[]] w fun e w'=>e=.returned (.int .i64 (jo jV (bl s)))/\w=w':=
 Aw _ jV s w hs Tryz.call214 (iV fun c=>mu c w)
theorem RQ (s:BA)(w:World)(hs:s.size<=9223372036854775807):Calls Tryz.prog 217 #[.string s,.func (.func 218) #[] #[]] w fun e w'=>e=.returned (.int .i64 (jo lF (bl s)))/\w=w':=
 Aw _ lF s w hs Tryz.call218 (iV fun c=>sQ c w)
theorem Rd.reads {sz:Nat}{A:Option Addr}{xs:List Value}(h:Rd w sz A n xs)(hsz:0<sz):oP w w.heap.size sz A n xs:=by
 refine⟨h.1,fun z=>?_⟩;obtain⟨b,off,e,y⟩:=h.2 z;have D:0<xs.length:=by rw[h.1];exact Nat.mul_pos z hsz
 have H:=y 0 _ (gG D);refine⟨_,e,World.block_lt_of_cell? _ _ H,fun j u F=>?_⟩;have:=y j u F;unfold Addr.add;split
 ·rename_i h;subst h;exact this
 ·exact this
def sX (w:World)(E:TypeId)(sz n:Nat)(xs:List Value)(e:Ending)(w':World):Prop:=∃ v,e=.returned v/\w'.ownsRow w.heap.size E sz v n xs/\Below w.heap.size w w'
theorem Jc:(Tryz.prog.info? 38).map (fun i=>(i.zero,i.size,i.bytes))=some (some (.agg #[.string ⟨#[]⟩,.string ⟨#[]⟩,.string ⟨#[]⟩,.string ⟨#[]⟩,.slice none 0 0,.slice none 0 0,.slice none 0 0,.slice none 0 0,.slice none 0 0]),9,184):=by kernel_rfl
theorem F9 (A:Option Addr)(n c:Nat)(xs:List Value)(w:World)(hr:Rd w 9 A n xs)(h1:∀ u∈xs,u.oneCell'=true)(hn:n<=100000):Calls Tryz.prog 41 #[.slice A n c] w (sX w 38 9 n xs):=by
 obtain⟨N,z,I,H,D⟩:=info_parts Jc;have M:=iV hr;clear hr;have O:=iV h1;clear h1;go_in;go_wp2_with (at_builtin;refine je _ rfl (.const (.slice none 0 0)) (.tmp 3) _ rfl w.heap.size 38 N _ 9 184 Tryz.underlying22 z I H D rfl (by omega) (.slice none 0 0) 0 [] rfl ⟨by simp,.inl ⟨rfl,rfl⟩⟩ w.heap.size A n c xs rfl (M.out.reads (by omega)) O.out (by simp only[maxLen];omega) (by omega) lr ?_;intro K R y F J);go_ret;exact⟨K,rfl,by simpa using y,bR.grown F lr (by simp[Value.ownBlock])⟩
theorem sY:(Tryz.prog.info? 9).map (fun i=>(i.zero,i.size,i.bytes))=some (some (.string ⟨#[]⟩),1,16):=by kernel_rfl
theorem GX (A:Option Addr)(n c:Nat)(xs:List Value)(w:World)(hr:Rd w 1 A n xs)(h1:∀ u∈xs,u.oneCell'=true)(hn:n<=100000):Calls Tryz.prog 42 #[.slice A n c] w (sX w 9 1 n xs):=by
 obtain⟨N,z,I,H,D⟩:=info_parts sY;have M:=iV hr;clear hr;have O:=iV h1;clear h1;go_in;go_wp2_with (at_builtin;refine je _ rfl (.const (.slice none 0 0)) (.tmp 3) _ rfl w.heap.size 9 N _ 1 16 Tryz.underlying33 z I H D rfl (by omega) (.slice none 0 0) 0 [] rfl ⟨by simp,.inl ⟨rfl,rfl⟩⟩ w.heap.size A n c xs rfl (M.out.reads (by omega)) O.out (by simp only[maxLen];omega) (by omega) lr ?_;intro K R y F J);go_ret;exact⟨K,rfl,by simpa using y,bR.grown F lr (by simp[Value.ownBlock])⟩
theorem Sa:(Tryz.prog.info? 78).map (fun i=>(i.zero,i.size,i.bytes))=some (some (.agg #[.string ⟨#[]⟩,.int .i64 0,.string ⟨#[]⟩]),3,40):=by kernel_rfl
theorem ND (A:Option Addr)(n c:Nat)(xs:List Value)(w:World)(hr:Rd w 3 A n xs)(h1:∀ u∈xs,u.oneCell'=true)(hn:n<=100000):Calls Tryz.prog 43 #[.slice A n c] w (sX w 78 3 n xs):=by
 obtain⟨N,z,I,H,D⟩:=info_parts Sa;have M:=iV hr;clear hr;have O:=iV h1;clear h1;go_in;go_wp2_with (at_builtin;refine je _ rfl (.const (.slice none 0 0)) (.tmp 3) _ rfl w.heap.size 78 N _ 3 40 Tryz.underlying34 z I H D rfl (by omega) (.slice none 0 0) 0 [] rfl ⟨by simp,.inl ⟨rfl,rfl⟩⟩ w.heap.size A n c xs rfl (M.out.reads (by omega)) O.out (by simp only[maxLen];omega) (by omega) lr ?_;intro K R y F J);go_ret;exact⟨K,rfl,by simpa using y,bR.grown F lr (by simp[Value.ownBlock])⟩
theorem Sb:(Tryz.prog.info? 57).map (fun i=>(i.zero,i.size,i.bytes))=some (some (.agg #[.string ⟨#[]⟩,.int .i64 0,.int .i64 0,.string ⟨#[]⟩,.string ⟨#[]⟩,.string ⟨#[]⟩,.string ⟨#[]⟩,.bool false]),8,104):=by kernel_rfl
theorem NE (A:Option Addr)(n c:Nat)(xs:List Value)(w:World)(hr:Rd w 8 A n xs)(h1:∀ u∈xs,u.oneCell'=true)(hn:n<=100000):Calls Tryz.prog 44 #[.slice A n c] w (sX w 57 8 n xs):=by
 obtain⟨N,z,I,H,D⟩:=info_parts Sb;have M:=iV hr;clear hr;have O:=iV h1;clear h1;go_in;go_wp2_with (at_builtin;refine je _ rfl (.const (.slice none 0 0)) (.tmp 3) _ rfl w.heap.size 57 N _ 8 104 Tryz.underlying35 z I H D rfl (by omega) (.slice none 0 0) 0 [] rfl ⟨by simp,.inl ⟨rfl,rfl⟩⟩ w.heap.size A n c xs rfl (M.out.reads (by omega)) O.out (by simp only[maxLen];omega) (by omega) lr ?_;intro K R y F J);go_ret;exact⟨K,rfl,by simpa using y,bR.grown F lr (by simp[Value.ownBlock])⟩
theorem Ku:(Tryz.prog.info? 59).map (fun i=>(i.zero,i.size,i.bytes))=some (some (.agg #[.int .i64 0,.string ⟨#[]⟩]),2,24):=by kernel_rfl
theorem Jd (A:Option Addr)(n c:Nat)(xs:List Value)(w:World)(hr:Rd w 2 A n xs)(h1:∀ u∈xs,u.oneCell'=true)(hn:n<=100000):Calls Tryz.prog 45 #[.slice A n c] w (sX w 59 2 n xs):=by
 obtain⟨N,z,I,H,D⟩:=info_parts Ku;have M:=iV hr;clear hr;have O:=iV h1;clear h1;go_in;go_wp2_with (at_builtin;refine je _ rfl (.const (.slice none 0 0)) (.tmp 3) _ rfl w.heap.size 59 N _ 2 24 Tryz.underlying36 z I H D rfl (by omega) (.slice none 0 0) 0 [] rfl ⟨by simp,.inl ⟨rfl,rfl⟩⟩ w.heap.size A n c xs rfl (M.out.reads (by omega)) O.out (by simp only[maxLen];omega) (by omega) lr ?_;intro K R y F J);go_ret;exact⟨K,rfl,by simpa using y,bR.grown F lr (by simp[Value.ownBlock])⟩
def Cz (l:LU):Bool:=decide (1<=l.length)&&decide (l.length<=100)&&Cr 32 l&&l.head? != some 32&&l.getLast? != some 32
theorem Yi (s:BA)(h:0<s.size):(bl s).head?=some s[0]:=by rw[pi s h];rfl
theorem Yj (s:BA)(h:0<s.size):(bl s).getLast?=some (s[s.size-1]):=by
 rw[List.getLast?_eq_getElem?,iX,qJ s (s.size-1) (by omega)]
theorem QH (a:UInt8):(((a.toNat:Nat):Int) != 32)=(some a != some 32):=by
 rw[bI];simp[<-UInt8.toNat_inj];omega
theorem wH (s:BA)(w:World)(hs:s.size<=9223372036854775807):Calls Tryz.prog 68 #[.string s] w fun e w'=>e=.returned (.bool (Cz (bl s)))/\w=w':=by
 have y:=iV (iX s);by_cases D:1<=s.size
 ·by_cases z:s.size<=100
  ·have H:=iV (Yi s (by omega));have F:=iV (Yj s (by omega));cases hw:Cr 32 (bl s)
   ·go_in;go_wp2_with (go_at_call 110;refine(tV _ 32 _ hs).mono ?_;rintro e w' ⟨rfl,rfl⟩);go_ret;exact⟨iW (by unfold Cz;rw[hw];simp),rfl⟩
   ·go_in;go_wp2_with (go_at_call 110;refine(tV _ 32 _ hs).mono ?_;rintro e w' ⟨rfl,rfl⟩)
    all_goals go_ret
    all_goals (refine⟨iW ?_,rfl⟩;unfold Cz;rw[hw,y.out,dT D,dT z,H.out,F.out])
    ·rw[<-QH,<-QH];simp[‹_=(32:Int)›]
    ·rw[<-QH,<-QH];simp
  ·go_in;go_wp2;go_ret;exact⟨iW (by unfold Cz;rw[y.out,dF z];simp),rfl⟩
 ·go_in;go_wp2;go_ret;exact⟨iW (by unfold Cz;rw[y.out,dF D];simp),rfl⟩
def BV (r:Option (LU×LU×LU)):Int:=if r.isSome then 0 else 3
structure Pc where
 kind:Int
 text:LU
 word:Int
def Pc.cells (x:Pc):List Value:=[.int .i64 x.kind,.string ⟨x.text.toArray⟩,.int .i64 x.word]
theorem Vm (x:Pc):x.cells.length=3:=rfl
def Jj:List (LU):=[[97,108,112,104,97],[98,101,116,97],[112,114,101],[114,99],[99,118,115],[115,118,110],[103,105,116],[104,103],[112]]
def Ge:List (LU)->LU->Option Nat
 | [],_=>none
 | a::r,x=>if a=x then some 0 else (Ge r x).map (· + 1)
def ub (l:LU):Option Nat:=Ge Jj l
def pH:Nat->Int->List Pc->LU->Option (List Pc×LU)
 | 0,_,_,_=>none
 | k+1,kind,acc,l=>if jo jV l=0 then none else match l.drop (jo jV l) with
  | 46::r=>pH k 6 (acc++[⟨kind,l.take (jo jV l),0⟩]) r
  | r=>some (acc++[⟨kind,l.take (jo jV l),0⟩],r)
def ri (acc:List Pc)(l:LU):List Pc×LU:=match l with
 | c::r=>if lF c=true then (acc++[⟨5,[c],0⟩],r) else (acc,l)
 | []=>(acc,[])
def nW:Nat->List Pc->LU->Option (List Pc×LU)
 | 0,_,_=>none
 | k+1,acc,l=>match l with
  | 95::r=>match ub (r.take (jo lF r)) with
   | none=>none
   | some wd=>nW k (acc++[⟨if 4<=wd then 4 else 0,r.take (jo lF r),wd⟩]++(if 0<jo jV (r.drop (jo lF r)) then [⟨3,(r.drop (jo lF r)).take (jo jV (r.drop (jo lF r))),0⟩] else [])) ((r.drop (jo lF r)).drop (jo jV (r.drop (jo lF r))))
  | l=>some (acc,l)
def wK (l:LU)(acc:List Pc)(r:LU):Option (List Pc×LU×LU):=match r with
 | []=>some (acc++[⟨1,[],0⟩],l,[])
 | 45::114::t=>if sS t=true then some (acc++[⟨2,t,0⟩]++[⟨1,[],0⟩],l.take (l.length-r.length),t) else none
 | _=>none
def xT (l:LU):Option (List Pc×LU×LU):=match pH (l.length+1) 7 [] l with
 | none=>none
 | some (a,r)=>match nW ((ri a r).2.length+1) (ri a r).1 (ri a r).2 with
  | none=>none
  | some (b,t)=>wK l b t
structure FU (w wr:World) (ps:List Pc) (r:BA):Prop where
 lcell:∃ A c,wr.cell? ⟨w.heap.size,0,none⟩=some (.slice A ps.length c)/\wr.ownsRow (w.heap.size+2) 310 3 (.slice A ps.length c) ps.length (ps.flatMap Pc.cells)
 lfree:wr.frozen? ⟨w.heap.size,0,none⟩=false
 rcell:wr.cell? ⟨w.heap.size+1,0,none⟩=some (.string r)
 rfree:wr.frozen? ⟨w.heap.size+1,0,none⟩=false
 bel:Below w.heap.size w wr
 sz:w.heap.size+2<=wr.heap.size
theorem rN:(Tryz.prog.info? 310).map (fun i=>(i.zero,i.size,i.bytes))=some (some (.agg #[.int .i64 0,.string ⟨#[]⟩,.int .i64 0]),3,32):=by kernel_rfl
theorem qv (w:World)(t:TypeId)(x y z:Value):oP (w.alloc (.cells #[x,y,z] t)).drew (w.heap.size+1) 3 (some ⟨w.heap.size,0,none⟩) 1 [x,y,z]:=by
 refine⟨rfl,fun _=>⟨_,rfl,by simp,fun j u D=>?_⟩⟩
 match j,D with
 | 0,D=>simp at D;subst D;simp[Addr.add]
 | 1,D=>simp at D;subst D;simp[Addr.add]
 | 2,D=>simp at D;subst D;simp[Addr.add]
 | j+3,D=>simp at D
theorem FU.setRest {wr:World}{ps:List Pc}{r:BA}(h:FU w wr ps r)(t:BA):FU w (wr.setCell ⟨w.heap.size+1,0,none⟩ (.string t)) ps t:=by
 obtain⟨⟨A,c,I,D⟩,N,M,J,H,K⟩:=h;have y:wr.grownBy (wr.setCell ⟨w.heap.size+1,0,none⟩ (.string t)) (some (w.heap.size+1)):=ji (World.grownBy.refl wr (some (w.heap.size+1))) (.inl rfl) _;refine⟨⟨A,c,y.cell I (by simp),D.kept y ?_⟩,?_,?_,?_,H.grown y H.size (fun j F=>by injection F with F;omega),Nat.le_trans K y.size⟩
 ·cases hq:(Value.slice A ps.length c).ownBlock with
  | none=>exact .inl rfl
  | some q=>right;intro z;injection z with z;have:=(D.lt q hq).1;omega
 ·rw[World.frozen?_setCell];exact N
 ·exact World.cell?_setCell_same' _ _ _ (by rw[M];rfl)
 ·rw[World.frozen?_setCell];exact J
theorem qQ (w:World)(kind:Int)(n:Nat)(ps:List Pc)(r:BA)(wr:World)(hn:n<=r.size)(hr:r.size<=64)(hps:ps.length<=1000)(hP:FU w wr ps r):Calls Tryz.prog 216 #[.int .i64 kind,.int .i64 n,.pointer (some ⟨w.heap.size,0,none⟩),.pointer (some ⟨w.heap.size+1,0,none⟩)] wr fun e w'=>e=.returned (.tuple #[])/\FU w w' (ps++[⟨kind,(bl r).take n,0⟩]) (r.extract n r.size):=by
 obtain⟨i0,O,Y,X,V⟩:=info_parts rN;obtain⟨⟨A,c,h1,h2⟩,h3,h4,h5,h6,h7⟩:=hP;have I:=iV h2;have HB:=iV h6;clear h2 h6;have NL:Hid (some w.heap.size≠(Value.slice A ps.length c).ownBlock):=by intro z;have:=(I.out.lt _ z.symm).1;omega
 have NR:Hid (some (w.heap.size+1)≠(Value.slice A ps.length c).ownBlock):=by intro z;have:=(I.out.lt _ z.symm).1;omega
 have i1:(n:Int)<=(r.size:Int):=by omega
 have H:w.heap.size<wr.heap.size:=by omega
 have F:w.heap.size+1<wr.heap.size:=by omega
 go_in;go_wp2_with fail;have ac:¬ w.heap.size=wr.heap.size:=by omega
 have ab:¬ w.heap.size+1=wr.heap.size:=by omega
 have CL:Hid ((wr.alloc (.cells #[.int .i64 kind,.string (r.extract 0 n),.int .i64 0] 310)).drew.cell? ⟨w.heap.size,0,none⟩=some (.slice A ps.length c)):=(World.cell?_alloc_lt wr _ ⟨w.heap.size,0,none⟩ H).trans h1;have FL:Hid ((wr.alloc (.cells #[.int .i64 kind,.string (r.extract 0 n),.int .i64 0] 310)).drew.frozen? ⟨w.heap.size,0,none⟩=false):=((bR.alloc lr _).frozen (p:=⟨w.heap.size,0,none⟩) H).trans h3;have CR:Hid ((wr.alloc (.cells #[.int .i64 kind,.string (r.extract 0 n),.int .i64 0] 310)).drew.cell? ⟨w.heap.size+1,0,none⟩=some (.string r)):=(World.cell?_alloc_lt wr _ ⟨w.heap.size+1,0,none⟩ F).trans h4;have FR:Hid ((wr.alloc (.cells #[.int .i64 kind,.string (r.extract 0 n),.int .i64 0] 310)).drew.frozen? ⟨w.heap.size+1,0,none⟩=false):=((bR.alloc lr _).frozen (p:=⟨w.heap.size+1,0,none⟩) F).trans h5
 go_region_law
  ((refine kr _ (by rfl) _ _ _ (by rfl) (w.heap.size+2) 310 i0 _ 3 32 Tryz.underlying256 O Y X V rfl (by omega) (.slice A ps.length c) ps.length _ (by rfl) ((I.out.alloc _).drew)
     (wr.heap.size+1) (some ⟨wr.heap.size,0,none⟩) 1 1 [.int .i64 kind,.string (r.extract 0 n),.int .i64 0] (by rfl) (qv wr _ _ _ _) (by simp[Value.oneCell']) (by unfold maxLen;omega) (by omega) (by simp;omega) ?_
    intro v1 y o2 D a2;obtain⟨N,J,rfl⟩:=jk o2;have aa:y.cell? ⟨w.heap.size,0,none⟩=some (.slice A ps.length c):=D.cell CL.out NL.out;have U:y.frozen? ⟨w.heap.size,0,none⟩=false:=(World.frozen?_of_block (a:=⟨w.heap.size,0,none⟩) (D.block w.heap.size (by simp;omega) NL.out)).trans FL.out;have Z:y.cell? ⟨w.heap.size+1,0,none⟩=some (.string r):=D.cell CR.out NR.out;have R:y.frozen? ⟨w.heap.size+1,0,none⟩=false:=(World.frozen?_of_block (a:=⟨w.heap.size+1,0,none⟩) (D.block (w.heap.size+1) (by simp;omega) NR.out)).trans FR.out))
 all_goals
  go_wp2_with fail;have P1:FU w (y.setCell ⟨w.heap.size,0,none⟩ (.slice N (ps.length+1) J)) (ps++[⟨kind,(bl r).take n,0⟩]) r:=by
   have K:y.grownBy (y.setCell ⟨w.heap.size,0,none⟩ (.slice N (ps.length+1) J)) (some w.heap.size):=ji (World.grownBy.refl y (some w.heap.size)) (.inl rfl) _;have e1:(ps++[(⟨kind,(bl r).take n,0⟩:Pc)]).length=ps.length+1:=by simp
   have e2:(ps++[(⟨kind,(bl r).take n,0⟩:Pc)]).flatMap Pc.cells=ps.flatMap Pc.cells++[.int .i64 kind,.string (r.extract 0 n),.int .i64 0]:=by
    rw[List.flatMap_append];congr 1;simp only[List.flatMap_cons,List.flatMap_nil,List.append_nil,Pc.cells];rw[show(⟨((bl r).take n).toArray⟩:BA)=r.extract 0 n from by apply nH;rw[pd,mF]]
   have b2:Below w.heap.size w y:=(jj (HB.out.alloc HB.out.size _) 1).grown D (by simp;omega) (fun j M=>by have:=(I.out.lt j M).1;omega);refine⟨⟨N,J,by rw[e1];exact World.cell?_setCell_same' _ _ _ (by rw[aa];rfl),?_⟩,by rw[World.frozen?_setCell];exact U,K.cell Z (by simp),by rw[World.frozen?_setCell];exact R,b2.grown K b2.size (fun j M=>by injection M with M;omega),?_⟩
   ·rw[e1,e2];refine o2.kept K ?_;cases hq:(Value.slice N (ps.length+1) J).ownBlock with
    | none=>exact .inl rfl
    | some q=>right;intro z;injection z with z;have:=(o2.lt q hq).1;omega
   ·have z1:=D.size;have z2:=K.size;simp at z1;omega
  go_end0;exact⟨rfl,P1.setRest _⟩
theorem KJ (x:LU):∀ (l:List (LU))(k:Nat),(∀ j,j<k->l[j]?≠some x)->l[k]?=some x->Ge l x=some k
 | [],k,_,h=>by simp at h
 | a::r,0,_,h=>by simp at h;simp[Ge,h]
 | a::r,k+1,hn,h=>by
  have y:a≠x:=fun e=>hn 0 (by omega) (by simp[e]);have:=KJ x r k (fun j z=>by simpa using hn (j+1) (by omega)) (by simpa using h);simp[Ge,y,this]
theorem Ha (x:LU):∀ (l:List (LU)),(∀ j:Nat,l[j]?≠some x)->Ge l x=none
 | [],_=>rfl
 | a::r,hn=>by
  have y:a≠x:=fun e=>hn 0 (by simp[e]);have:=Ha x r (fun j=>by simpa using hn (j+1));simp[Ge,y,this]
theorem zi (j:Nat)(h:j<9):Jj[j]?=some (bl (lR j)):=by
 rcases(by omega:j=0\/j=1\/j=2\/j=3\/j=4\/j=5\/j=6\/j=7\/j=8) with rfl | rfl | rfl | rfl | rfl | rfl | rfl | rfl | rfl<;>rfl
theorem NT {k:Nat}(hk:k<9)(hn:∀ j,j<k->¬ lR j=s)(h:lR k=s):ub (bl s)=some k:=
 KJ _ _ k (fun j y=>by rw[zi j (by omega)];intro e;injection e with e;exact hn j y (nH e)) (by rw[zi k hk,h])
theorem KK (hn:∀ j,j<9->¬ lR j=s):ub (bl s)=none:=
 Ha _ _ (fun j=>by
  by_cases y:j<9
  ·rw[zi j y];intro e;injection e with e;exact hn j y (nH e)
  ·rw[List.getElem?_eq_none (by simp[Jj];omega)];simp)
def Z4 (s:BA):Int:=match ub (bl s) with | some i=>i | none=>-1
theorem abh (k:Nat)(hk:k<9)(x:Nat->BA)(w:World):(Instr.index 354 (.agg #[.string (x 0),.string (x 1),.string (x 2),.string (x 3),.string (x 4),.string (x 5),.string (x 6),.string (x 7),.string (x 8)]) (.int .i64 k)).run Tryz.prog w=.ok (.string (x k)) w:=by
 rcases(by omega:k=0\/k=1\/k=2\/k=3\/k=4\/k=5\/k=6\/k=7\/k=8) with rfl | rfl | rfl | rfl | rfl | rfl | rfl | rfl | rfl<;>kernel_rfl
theorem CH (s:BA)(w:World)(hG:Gl w):Calls Tryz.prog 219 #[.string s] w fun e w'=>e=.returned (.int .i64 (Z4 s))/\w=w':=by
 have M:=hG.vwd 0 (by omega);have K:=hG.vwd 1 (by omega);have J:=hG.vwd 2 (by omega);have N:=hG.vwd 3 (by omega);have X:=hG.vwd 4 (by omega);have H:=hG.vwd 5 (by omega);have O:=hG.vwd 6 (by omega);have R:=hG.vwd 7 (by omega);have I:=hG.vwd 8 (by omega);clear hG;go_in;go_wp2_with fail;clear M K J N X H O R I;go_loop [6] (fun i=>∃ k:Nat,k<=9/\i=.int .i64 k/\Hid (∀ j,j<k->¬ lR j=s)) (fun i=>9-(intOf i).toNat)
 case atStart=>exact⟨0,by omega,rfl,iV (fun j F=>by omega)⟩
 case round=>
  obtain⟨k,Y,rfl,z⟩:=hrel;by_cases y:k<9
  ·have V:=fun W=>abh k y lR W;cases hE:((lR k).toList==s.toList)
   ·have D:Hid (¬ lR k=s):=by show ¬ _;rw[mI] at hE;exact of_decide_eq_false hE
    go_wp2;go_round
    case rel=>exact⟨k+1,by omega,by go_num,iV (fun j F=>by
     by_cases e:j=k
     ·subst e;exact D.out
     ·exact z.out j (by omega))⟩
    case measure=>simp[intOf];omega
   ·have U:Hid (lR k=s):=by show _=_;rw[mI] at hE;exact dO hE
    go_wp2;go_ret;exact⟨jz (by unfold Z4;rw[NT y z.out U.out]),rfl⟩
  ·go_wp2;go_ret;exact⟨jz (by unfold Z4;rw[KK (fun j F=>z.out j (by omega))]),rfl⟩
end
section
open Go.ChangeShapes Go.WideShapes Go.Deep Go.RowKit
section
variable {H : Type} {enc : TypeId × Value -> H} {w : World} {spare : Nat -> Bool}
def X8 (x:jf):Prop:=x.nm.size<=9223372036854775807/\x.ver.size<=9223372036854775807/\(Lit.int .i64 x.op).wf=true
def X9 (x:jg):Prop:=x.path.size<=9223372036854775807/\x.owner.size<=9223372036854775807/\x.group.size<=9223372036854775807/\x.link.size<=9223372036854775807/\x.sum.size<=9223372036854775807/\(Lit.int .i64 x.kind).wf=true/\(Lit.int .i64 x.mode).wf=true
def Nt (x:jy):Prop:=x.body.size<=9223372036854775807/\(Lit.int .i64 x.phase).wf=true
theorem oa {y:DataW H×List MemPlace}(h:DataW.trod enc Tryz.prog w 0 spare true n 9 [v]=some y):∃ s:BA,v=.string s/\s.size<=9223372036854775807:=by
 obtain⟨s,z,_,D⟩:=DataW.trod_string Tryz.underlying9 h;injection z with z _;exact⟨s,z,by unfold maxLen at D;omega⟩
theorem yW {y:DataW H×List MemPlace}(h:DataW.trod enc Tryz.prog w 0 spare true n 3 [v]=some y):∃ z:Int,v=.int .i64 z/\(Lit.int .i64 z).wf=true:=by
 obtain⟨z,D,_,F⟩:=DataW.trod_int Tryz.underlying3 h;injection D with D _;exact⟨z,D,F⟩
theorem U2 {y:DataW H×List MemPlace}(h:DataW.trod enc Tryz.prog w 0 spare true n 4 [v]=some y):∃ z:Bool,v=.bool z:=by
 obtain⟨z,D,_⟩:=DataW.trod_bool Tryz.underlying4 h;injection D with D _;exact⟨z,D⟩
theorem Qx {d:DataW H×List MemPlace}(h:DataW.trod enc Tryz.prog w 0 spare true fuel 34 [v]=some d):
  ∃ (A:Option Addr) (c:Nat) (l:List jf),v=.slice A l.length c/\Rd w 3 A l.length (l.flatMap jf.cells)/\(∀ x∈l,X8 x)/\l.length<=9223372036854775807/\l.length<=c:=by
 refine vK Tryz.underlying34 Tryz.underlying78 (by kernel_rfl) (by kernel_rfl) (by decide) jf.cells X8 (fun _=>rfl) (fun n vs y=>?_) h;obtain⟨Z,J⟩:=y 0 _ rfl;obtain⟨y1,M⟩:=y 1 _ rfl;obtain⟨y2,D⟩:=y 2 _ rfl;obtain⟨O,N,F⟩:=oa J;obtain⟨I,Y,U⟩:=yW M;obtain⟨K,V,z⟩:=oa D;refine⟨⟨O,I,K⟩,⟨F,z,U⟩,fun j R=>?_⟩;have X:j<3:=R;rcases(by omega:j=0\/j=1\/j=2) with rfl | rfl | rfl
 ·rw[N];rfl
 ·rw[Y];rfl
 ·rw[V];rfl
theorem Qy {d:DataW H×List MemPlace}(h:DataW.trod enc Tryz.prog w 0 spare true fuel 35 [v]=some d):
  ∃ (A:Option Addr) (c:Nat) (l:List jg),v=.slice A l.length c/\Rd w 8 A l.length (l.flatMap jg.cells)/\(∀ x∈l,X9 x)/\l.length<=9223372036854775807/\l.length<=c:=by
 refine vK Tryz.underlying35 Tryz.underlying57 (by kernel_rfl) (by kernel_rfl) (by decide) jg.cells X9 (fun _=>rfl) (fun n vs y=>?_) h;obtain⟨y0,Z⟩:=y 0 _ rfl;obtain⟨y1,h1⟩:=y 1 _ rfl;obtain⟨y2,F⟩:=y 2 _ rfl;obtain⟨y3,O⟩:=y 3 _ rfl;obtain⟨y4,h4⟩:=y 4 _ rfl;obtain⟨y5,J⟩:=y 5 _ rfl;obtain⟨y6,h6⟩:=y 6 _ rfl;obtain⟨y7,h7⟩:=y 7 _ rfl;obtain⟨s0,e0,M⟩:=oa Z;obtain⟨N,e1,z1⟩:=yW h1;obtain⟨s2,e2,D⟩:=yW F;obtain⟨R,X,U⟩:=oa O;obtain⟨s4,V,z4⟩:=oa h4;obtain⟨Y,e5,z5⟩:=oa J;obtain⟨s6,e6,K⟩:=oa h6;obtain⟨z,I⟩:=U2 h7;refine⟨⟨s0,N,s2,R,s4,Y,s6,z⟩,⟨M,U,z4,z5,K,z1,D⟩,fun j hj=>?_⟩;have aa:j<8:=hj;rcases(by omega:j=0\/j=1\/j=2\/j=3\/j=4\/j=5\/j=6\/j=7) with rfl | rfl | rfl | rfl | rfl | rfl | rfl | rfl
 ·rw[e0];rfl
 ·rw[e1];rfl
 ·rw[e2];rfl
 ·rw[X];rfl
 ·rw[V];rfl
 ·rw[e5];rfl
 ·rw[e6];rfl
 ·rw[I];rfl
theorem Kf {d:DataW H×List MemPlace}(h:DataW.trod enc Tryz.prog w 0 spare true fuel 36 [v]=some d):
  ∃ (A:Option Addr) (c:Nat) (l:List jy),v=.slice A l.length c/\Rd w 2 A l.length (l.flatMap jy.cells)/\(∀ x∈l,Nt x)/\l.length<=9223372036854775807/\l.length<=c:=by
 refine vK Tryz.underlying36 Tryz.underlying59 (by kernel_rfl) (by kernel_rfl) (by decide) jy.cells Nt (fun _=>rfl) (fun n V y=>?_) h;obtain⟨U,K⟩:=y 0 _ rfl;obtain⟨X,I⟩:=y 1 _ rfl;obtain⟨z,M,N⟩:=yW K;obtain⟨R,J,F⟩:=oa I;refine⟨⟨z,R⟩,⟨F,N⟩,fun j D=>?_⟩;have O:j<2:=D;rcases(by omega:j=0\/j=1) with rfl | rfl
 ·rw[M];rfl
 ·rw[J];rfl
theorem ZE (n:Nat)(vs:Nat->Value)
  (hv:∀ (j:Nat)(t:TypeId),[(9:TypeId),9,9,9,33,33,34,35,36][j]?=some t->∃ y,DataW.trod enc Tryz.prog w 0 spare true n t [vs j]=some y):
  ∃ p:jn,(p.ok w/\p.fits/\p.files.length<=p.fc/\p.needs.length<=p.nc/\p.bars.length<=p.bc/\p.gives.length<=p.gc/\p.scripts.length<=p.sc)/\∀ j,j<9->p.cells[j]?=some (vs j):=by
 obtain⟨y0,h0⟩:=hv 0 _ rfl;obtain⟨y1,h1⟩:=hv 1 _ rfl;obtain⟨y2,H⟩:=hv 2 _ rfl;obtain⟨y3,h3⟩:=hv 3 _ rfl;obtain⟨y4,h4⟩:=hv 4 _ rfl;obtain⟨y5,V⟩:=hv 5 _ rfl;obtain⟨y6,h6⟩:=hv 6 _ rfl;obtain⟨y7,h7⟩:=hv 7 _ rfl;obtain⟨y8,h8⟩:=hv 8 _ rfl;obtain⟨s0,e0,Z⟩:=oa h0;obtain⟨s1,e1,z1⟩:=oa h1;obtain⟨s2,e2,D⟩:=oa H;obtain⟨s3,e3,z3⟩:=oa h3;obtain⟨a4,c4,l4,e4,r4,x4,n4,M⟩:=IZ Tryz.underlying33 Tryz.underlying9 (by kernel_rfl) h4;obtain⟨a5,c5,l5,e5,X,x5,n5,J⟩:=IZ Tryz.underlying33 Tryz.underlying9 (by kernel_rfl) V;obtain⟨R,c6,l6,e6,r6,x6,n6,O⟩:=Qx h6;obtain⟨U,z,l7,K,F,x7,N,k7⟩:=Qy h7;obtain⟨Y,c8,l8,e8,r8,x8,n8,I⟩:=Kf h8;refine⟨⟨s0,s1,s2,s3,a4,c4,l4,a5,c5,l5,R,c6,l6,U,z,l7,Y,c8,l8⟩,⟨⟨r4,X,r6,F,r8⟩,⟨Z,z1,D,z3,n4,n5,n6,N,n8,x4,x5,x6,x7,x8⟩,k7,M,J,O,I⟩,fun j hj=>?_⟩;rcases(by omega:j=0\/j=1\/j=2\/j=3\/j=4\/j=5\/j=6\/j=7\/j=8) with rfl | rfl | rfl | rfl | rfl | rfl | rfl | rfl | rfl
 ·rw[e0];rfl
 ·rw[e1];rfl
 ·rw[e2];rfl
 ·rw[e3];rfl
 ·rw[e4];rfl
 ·rw[e5];rfl
 ·rw[e6];rfl
 ·rw[K];rfl
 ·rw[e8];rfl
theorem RN {d:DataW H×List MemPlace}(h:DataW.trod enc Tryz.prog w 0 spare true fuel 22 [v]=some d):
  ∃ (A:Option Addr) (c:Nat) (l:List jn),v=.slice A l.length c/\tU w A l/\(∀ p∈l,p.fits)/\l.length<=9223372036854775807/\(∀ p∈l,p.files.length<=p.fc/\p.needs.length<=p.nc/\p.bars.length<=p.bc/\p.gives.length<=p.gc/\p.scripts.length<=p.sc)/\l.length<=c:=by
 obtain⟨A,c,l,J,I,D,M,K⟩:=vK Tryz.underlying22 Tryz.underlying38 (by kernel_rfl) (by kernel_rfl) (by decide) jn.cells (fun p=>p.ok w/\p.fits/\p.files.length<=p.fc/\p.needs.length<=p.nc/\p.bars.length<=p.bc/\p.gives.length<=p.gc/\p.scripts.length<=p.sc) (fun _=>rfl) (fun n F y=>by
  refine ZE (enc:=enc) (spare:=spare) n F (fun j t ht=>?_);have N:j<9:=by simpa using(gS ht).1
  rcases(by omega:j=0\/j=1\/j=2\/j=3\/j=4\/j=5\/j=6\/j=7\/j=8) with rfl | rfl | rfl | rfl | rfl | rfl | rfl | rfl | rfl
  ·have ht:=Option.some.inj ht;subst ht;exact y 0 _ rfl
  ·have ht:=Option.some.inj ht;subst ht;exact y 1 _ rfl
  ·have ht:=Option.some.inj ht;subst ht;exact y 2 _ rfl
  ·have ht:=Option.some.inj ht;subst ht;exact y 3 _ rfl
  ·have ht:=Option.some.inj ht;subst ht;exact y 4 _ rfl
  ·have ht:=Option.some.inj ht;subst ht;exact y 5 _ rfl
  ·have ht:=Option.some.inj ht;subst ht;exact y 6 _ rfl
  ·have ht:=Option.some.inj ht;subst ht;exact y 7 _ rfl
  ·have ht:=Option.some.inj ht;subst ht;exact y 8 _ rfl) h
 exact⟨A,c,l,J,⟨I,fun p z=>(D p z).1⟩,fun p z=>(D p z).2.1,M,fun p z=>(D p z).2.2,K⟩
end
end
end Go.Proofs.YtkmjcombhjombaaGreatDoor
