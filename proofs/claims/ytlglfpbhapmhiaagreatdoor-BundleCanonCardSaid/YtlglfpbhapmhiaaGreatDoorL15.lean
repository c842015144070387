/- A part of the proof. -/
import Derived.Test.YtlglfpbhapmhiaaGreatDoorL10
import Derived.Test.YtlglfpbhapmhiaaGreatDoorL14
set_option maxRecDepth 100000
set_option maxHeartbeats 20000000
set_option linter.unusedVariables false
set_option linter.unusedSimpArgs false
namespace Go.Proofs.YtlglfpbhapmhiaaGreatDoor
variable{r s:BA}{kind:Int}{l:LU}{acc ps:List Pc}{k n:Nat}{c:UInt8}{w wr:World}
section
open Go.RowKit
theorem ox (s p:BA)(w:World)(h:Hid (Lib.hasPrefix (bl s) (bl p)=true)):Calls Tryz.prog 167 #[.string s,.string p] w fun e w'=>e=.returned (.tuple #[.string (s.extract p.size s.size),.bool true])/\w=w':=
 (Tryz.strings_CutPrefix s p w).mono fun e w' ⟨he,hw⟩=>⟨by
  have h1:Lib.hasPrefix s.data.toList p.data.toList=true:=h.out;rw[he,h1];have h2:(⟨(Lib.trimPrefix s.data.toList p.data.toList).toArray⟩:BA)=s.extract p.size s.size:=by
   apply dC;rw[jB,cO];unfold Lib.trimPrefix;rw[h1];simp[bl]
  rw[h2],hw.symm⟩
theorem pN (s p:BA)(w:World)(h:Hid (Lib.hasPrefix (bl s) (bl p)=false)):Calls Tryz.prog 167 #[.string s,.string p] w fun e w'=>e=.returned (.tuple #[.string s,.bool false])/\w=w':=
 (Tryz.strings_CutPrefix s p w).mono fun e w' ⟨he,hw⟩=>⟨by
  have h1:Lib.hasPrefix s.data.toList p.data.toList=false:=h.out;rw[he,h1];have h2:(⟨(Lib.trimPrefix s.data.toList p.data.toList).toArray⟩:BA)=s:=by
   apply dC;rw[jB];unfold Lib.trimPrefix;rw[h1];rfl
  rw[h2],hw.symm⟩
theorem pO (s p:BA)(b:Bool)(w:World)(h:Hid (Lib.hasPrefix (bl s) (bl p)=b)):Calls Tryz.prog 169 #[.string s,.string p] w fun e w'=>e=.returned (.bool b)/\w=w':=
 (Tryz.strings_HasPrefix s p w).mono fun e w' ⟨he,hw⟩=>⟨by rw[he,show Lib.hasPrefix s.data.toList p.data.toList=b from h.out],hw.symm⟩
theorem pP (s:BA)(n:Nat)(w:World)(hs:s.size<=9223372036854775807)(h:Hid (aE cN (bl s)=n)):Calls Tryz.prog 166 #[.string s,.func (.func 163) #[] #[]] w fun e w'=>e=.returned (.int .i64 n)/\w=w':=by rw[<-h.out];exact xK s w hs
theorem zz (s:BA)(n:Nat)(w:World)(hs:s.size<=9223372036854775807)(h:Hid (aE jb (bl s)=n)):Calls Tryz.prog 166 #[.string s,.func (.func 168) #[] #[]] w fun e w'=>e=.returned (.int .i64 n)/\w=w':=by rw[<-h.out];exact Ip s w hs
def ur (r:Option (List Pc×LU×LU))(w:World)(e:Ending)(w':World):Prop:=
 Below w.heap.size w w'/\match r with
  | none=>∃ (A:OA) (n c:Nat) (p q:BA),e=.returned (.tuple #[.slice A n c,.string p,.string q,.bool false])
  | some (ps,p,q)=>∃ (A:OA) (c:Nat),e=.returned (.tuple #[.slice A ps.length c,.string ⟨p.toArray⟩,.string ⟨q.toArray⟩,.bool true])/\Rd w' 3 A ps.length (ps.flatMap Pc.cells)
theorem wv.start (w:World)(s:BA):wv w ((w.alloc (.cells #[.slice none 0 0] 159)).alloc (.cells #[.string s] 9)) [] s:=
 ⟨⟨none,0,by simp,World.ownsRow_nil _ _ _ _⟩,by simp,by simp,by simp,(bR.alloc lr _).alloc (by simp) _,by simp⟩
theorem LE (h:Lib.hasPrefix l [c]=true):l=c::l.drop 1:=by
 cases l with
 | nil=>simp[Lib.hasPrefix] at h
 | cons a r=>simp[Lib.hasPrefix] at h;simp[h]
theorem Qi (h:Lib.hasPrefix l [c]=false)(t:LU):l≠c::t:=by
 intro e;subst e;simp[Lib.hasPrefix] at h
theorem Ef (h:aE cN l=0):kg (k+1) kind acc l=none:=by unfold kg;rw[if_pos h]
theorem Eg {r:LU}(hn:aE cN l=n)(h0:n≠0)(h:l.drop n=46::r):kg (k+1) kind acc l=kg k 6 (acc++[⟨kind,l.take n,0⟩]) r:=by
 subst hn
 conv=>lhs;unfold kg
 rw[if_neg h0,h];simp
theorem Eh (hn:aE cN l=n)(h0:n≠0)(h:∀ r,l.drop n≠46::r):kg (k+1) kind acc l=some (acc++[⟨kind,l.take n,0⟩],l.drop n):=by
 subst hn
 conv=>lhs;unfold kg
 rw[if_neg h0];split
 ·rename_i r hr;exact absurd hr (h r)
 ·rfl
def restSz (w wr:World):Nat:=match wr.cell? ⟨w.heap.size+1,0,none⟩ with | some (.string r)=>r.size | _=>0
theorem wv.restSz (h:wv w wr ps r):restSz w wr=r.size:=by unfold Go.Proofs.YtlglfpbhapmhiaaGreatDoor.restSz;rw[h.rcell]
theorem fT (r:BA)(n:Nat):(r.extract n r.size).size=r.size-n:=by
 have:=congrArg List.length (cO r n);rw[ah,List.length_drop,ah] at this;exact this
structure ww (s:BA) (ps:List Pc) (r:BA):Prop where
 le:ps.length+r.size<=s.size
 tail:bl r=(bl s).drop (s.size-r.size)
theorem ww.start (s:BA):ww s [] s:=⟨by simp,by simp⟩
theorem ww.drop {qs:List Pc}(h:ww s ps r)(hn:n<=r.size)(hq:qs.length<=ps.length+n):ww s qs (r.extract n r.size):=by
 have hz:=fT r n;refine⟨by rw[hz];have:=h.le;omega,?_⟩;rw[cO,h.tail,List.drop_drop,hz];congr 1;have:=h.le;omega
def LH:LU->Bool
 | c::_=>jb c
 | []=>false
theorem LI (h:LH l=false):ow acc l=(acc,l):=by
 cases l with
 | nil=>rfl
 | cons c r=>simp only[LH] at h;simp[ow,h]
theorem IG (h:LH l=true):ow acc l=(acc++[⟨5,l.take 1,0⟩],l.drop 1):=by
 cases l with
 | nil=>simp[LH] at h
 | cons c r=>simp only[LH] at h;simp[ow,h]
theorem OG (h:LH (bl r)=true):0<r.size:=by
 rcases Nat.eq_zero_or_pos r.size with h0 | h0
 ·rw[bX r h0] at h;simp[LH] at h
 ·exact h0
theorem Ei (h:∀ t,l≠95::t):hQ (k+1) acc l=some (acc,l):=by
 unfold hQ;split
 ·rename_i r;exact absurd rfl (h r)
 ·rfl
theorem GY (x:LU):∀ (l:List (LU))(k:Nat),wV l x=some k->k<l.length
 | [],k,h=>by simp[wV] at h
 | a::r,k,h=>by
  unfold wV at h;split at h
  ·injection h with h;subst h;simp
  ·obtain⟨j,hj,rfl⟩:=Option.map_eq_some_iff.1 h;have:=GY x r j hj;simp;omega
theorem II (h:mO l=some k):k<9:=GY l zy k h
def jg (wd:Nat):Int:=if 4<=wd then 4 else 0
theorem Ej {r:LU}(hn:aE jb r=n)(h:mO (r.take n)=none):hQ (k+1) acc (95::r)=none:=by
 subst hn
 conv=>lhs;unfold hQ
 simp only[h]
theorem Ek {m wd:Nat}{r:LU}(hn:aE jb r=n)(h:mO (r.take n)=some wd)(hm:aE cN (r.drop n)=m):
  hQ (k+1) acc (95::r)=hQ k (acc++[⟨jg wd,r.take n,wd⟩]++(if 0<m then [⟨3,(r.drop n).take m,0⟩] else [])) ((r.drop n).drop m):=by
 subst hn hm
 conv=>lhs;unfold hQ
 simp only[h,jg]
theorem wv.setWord {x:Pc}(h:wv w wr (ps++[x]) r)(wd:Int){g c N:Nat}(hN:N=ps.length+1)(hc:wr.cell? ⟨w.heap.size,0,none⟩=some (.slice (some ⟨g,0,none⟩) N c)):
  wv w (wr.setCell ⟨g,ps.length*3+2,none⟩ (.int .i64 wd)) (ps++[{ x with word:=wd }]) r:=by
 obtain⟨⟨A,c',h1,h2⟩,h3,h4,h5,h6,h7⟩:=h;rw[h1] at hc;injection hc with hc;injection hc with hA _ hcc;subst hA hcc;have hgb:=(h2.lt g rfl)
 have hg:wr.grownBy (wr.setCell ⟨g,ps.length*3+2,none⟩ (.int .i64 wd)) (some g):=ap (World.grownBy.refl wr (some g)) (.inl rfl) _;have e1:(ps++[x]).length=(ps++[{ x with word:=wd }]).length:=by simp
 have hst:=(h2.stored (ps.length*3+2) (.int .i64 wd)).1;have e2:((ps++[x]).flatMap Pc.cells).set (ps.length*3+2) (.int .i64 wd)=(ps++[{ x with word:=wd }]).flatMap Pc.cells:=by
  have hl:(ps.flatMap Pc.cells).length=ps.length*3:=dw LD ps;rw[List.flatMap_append,List.flatMap_append,List.set_append_right _ _ (by omega),hl,show ps.length*3+2-ps.length*3=2 from by omega];simp[Pc.cells]
 rw[e2] at hst;refine⟨⟨some ⟨g,0,none⟩,c',hg.cell (by rw[<-e1];exact h1) (by simp;omega),by rw[<-e1];exact hst⟩,by rw[World.frozen?_setCell];exact h3,hg.cell h4 (by simp;omega),by rw[World.frozen?_setCell];exact h5,h6.grown hg h6.size (fun j hj=>by injection hj with hj;omega),Nat.le_trans h7 hg.size⟩
def zA (l:LU)(acc:List Pc)(k:Nat)(r q:BA):Option (List Pc×LU×LU):=if r.size=0 then some (acc++[⟨1,[],0⟩],l.take k,bl q) else none
theorem OH (l:LU)(acc:List Pc)(r:BA)(h:Lib.hasPrefix (bl r) [45,114]=false):sE l acc (bl r)=zA l acc (l.length-r.size) r ⟨#[]⟩:=by
 unfold zA;by_cases h0:r.size=0
 ·rw[if_pos h0,bX r h0,h0];simp[sE,bl]
 ·rw[if_neg h0];have hc:=gU r (by omega);unfold sE;split
  ·rename_i he;rw[he] at hc;cases hc
  ·rename_i t he;rw[he] at h;simp[Lib.hasPrefix] at h
  ·rfl
theorem OI (h:Lib.hasPrefix l [45,114]=true):l=45::114::l.drop 2:=by
 cases l with
 | nil=>simp[Lib.hasPrefix] at h
 | cons a r=>
  cases r with
  | nil=>simp[Lib.hasPrefix] at h
  | cons b r=>simp[Lib.hasPrefix] at h;simp[h.1,h.2]
theorem LJ (l:LU)(acc:List Pc)(r t:BA)(h:bl r=45::114::bl t)(hn:lV (bl t)=true)(e:BA)(he:e.size=0):sE l acc (bl r)=zA l (acc++[⟨2,bl t,0⟩]) (l.length-r.size) e t:=by
 unfold zA;have hl:=congrArg List.length h;rw[ah] at hl;rw[if_pos he,h,sE,if_pos hn,<-h,ah]
theorem LK (l:LU)(acc:List Pc)(r t q:BA)(h:bl r=45::114::bl t)(hn:lV (bl t)=false)(k:Nat):sE l acc (bl r)=zA l acc k r q:=by
 unfold zA;have hl:=congrArg List.length h;rw[ah] at hl;rw[if_neg (by simp at hl;omega),h,sE,if_neg (by rw[hn];simp)]
theorem md {W w2:World}{r2 q:BA}{ps0:List Pc}{NN:Nat}{A A1:OA}{c c1:Nat}{b:Bool}{o:Obj}(h0:un (bl s)=sE (bl s) ps0 (bl r2))(h1:sE (bl s) ps0 (bl r2)=zA (bl s) ps ((bl s).length-r2.size) r q)(hb:decide (r.size=0)=b)(hn:ps.length=NN)
  (hbel:Below w.heap.size w W)(hsz:w.heap.size+2<=W.heap.size)(ho:W.ownsRow (w.heap.size+2) 198 3 (.slice A NN c) NN (ps.flatMap Pc.cells))(g2:(W.alloc o).drew.grownBy w2 (Value.slice A NN c).ownBlock)
  (o2:w2.ownsRow (w.heap.size+2) 198 3 (.slice A1 (NN+1) c1) (NN+1) (ps.flatMap Pc.cells++[.int .i64 1,.string ⟨#[]⟩,.int .i64 0])):
  ur (un (bl s)) w (.returned (.tuple #[.slice A1 (NN+1) c1,.string (s.extract 0 (s.size-r2.size)),.string q,.bool b])) (w2.setCell ⟨w.heap.size,0,none⟩ (.slice A1 (NN+1) c1)):=by
 have b2:Below w.heap.size w w2:=(am (hbel.alloc hbel.size o) 1).grown g2 (by simp;omega) (fun j hj=>by have:=(ho.lt j hj).1;omega);have hg:w2.grownBy (w2.setCell ⟨w.heap.size,0,none⟩ (.slice A1 (NN+1) c1)) (some w.heap.size):=ap (World.grownBy.refl w2 (some w.heap.size)) (.inl rfl) _;refine⟨b2.grown hg b2.size (fun j hj=>by injection hj with hj;omega),?_⟩;rw[h0,h1];unfold zA;cases b with
 | false=>
  rw[if_neg (of_decide_eq_false hb)];exact⟨_,_,_,_,_,rfl⟩
 | true=>
  rw[if_pos (dO hb)];have e1:(ps++[(⟨1,[],0⟩:Pc)]).length=NN+1:=by simp[hn]
  have e2:(ps++[(⟨1,[],0⟩:Pc)]).flatMap Pc.cells=ps.flatMap Pc.cells++[.int .i64 1,.string ⟨#[]⟩,.int .i64 0]:=by rw[List.flatMap_append];rfl
  refine⟨A1,c1,?_,?_⟩
  ·rw[e1];have e3:(⟨((bl s).take ((bl s).length-r2.size)).toArray⟩:BA)=s.extract 0 (s.size-r2.size):=by apply dC;rw[jB,ek,ah]
   have e4:(⟨(bl q).toArray⟩:BA)=q:=by apply dC;rw[jB]
   simp only[e3,e4]
  ·rw[e1,e2];refine bD (o2.kept hg ?_);cases hq:(Value.slice A1 (NN+1) c1).ownBlock with
   | none=>exact .inl rfl
   | some k=>right;intro he;injection he with he;have:=(o2.lt k hq).1;omega
theorem us (s:BA)(w:World)(hG:Gl w)(hs:s.size<=64):Calls Tryz.prog 122 #[.string s] w (ur (un (bl s)) w):=by
 have HG:=ae hG;clear hG;go_in;go_upto_block 0 with(fail)
 go_cut [4,8] (fun s4 s8 wx=>∃ (kd:Int) (ps:List Pc) (r:BA),s4=.string ⟨#[]⟩/\s8=.int .i64 kd/\Hid (kg (s.size+1) 7 [] (bl s)=some (ps,bl r))/\Hid (wv w wx ps r)/\Hid (ww s ps r))
 case first=>
  go_wp2;go_loopw [4,8] (fun s4 s8 wr=>∃ (fuel:Nat) (kd:Int) (ps:List Pc) (r:BA),s4=.string ⟨#[]⟩/\s8=.int .i64 kd/\r.size<=fuel/\Hid (kg (s.size+1) 7 [] (bl s)=kg (fuel+1) kd ps (bl r))/\Hid (wv w wr ps r)/\Hid (ww s ps r)) (fun _ _ wr=>restSz w wr)
  case atStart=>exact⟨s.size,7,[],s,rfl,rfl,lr,rfl,wv.start w s,ww.start s⟩
  case round=>
   obtain⟨fuel,kd,ps,r,rfl,rfl,hfu,HN,HP,HA⟩:=hrel;have c6:=HP.out.rcell;have hrs:r.size<=64:=by have:=HA.out.le;omega
   have hpl:ps.length<=1000:=by have:=HA.out.le;omega
   obtain⟨n,hn⟩:∃ n,n=aE cN (bl r):=⟨_,rfl⟩
   have HNN:Hid (aE cN (bl r)=n):=hn.symm;have hnl:n<=r.size:=by have:=gC cN (bl r);rw[ah] at this;omega
   clear hn;go_wp2_with fail;refine(pP r n _ (by omega) HNN).mono ?_;rintro e w' ⟨rfl,rfl⟩;by_cases n0:n=0
   ·have n0':((n:Int)==0)=true:=kV n0;have E:Hid (un (bl s)=none):=by show _=_;unfold un;rw[ah,HN.out,Ef (by rw[HNN.out];exact n0)]
    obtain⟨A,c,hl1,hl2⟩:=HP.out.lcell;have fl:=HP.out.lfree;clear n0 hl2;go_wp2_with fail;refine bodyPost_ret (v:=.tuple #[.slice none 0 0,.string ⟨#[]⟩,.string ⟨#[]⟩,.bool false]) (by simp[results,Tryz.results122,go_sem,hl1]) rfl ?_;rw[E.out];exact⟨HP.out.bel.setCell lr _,none,0,0,_,_,rfl⟩
   ·have n0':((n:Int)==0)=false:=jo n0;have N0:wQ (n=0):=⟨n0⟩
    clear n0;go_wp2_with fail;refine(jf w kd n ps r _ hnl hrs hpl HP.out).mono ?_;rintro e w1 ⟨rfl,hp1⟩;have HP1:=ae hp1;have HA1:Hid (ww s (ps++[⟨kd,(bl r).take n,0⟩]) (r.extract n r.size)):=HA.out.drop hnl (by have:=N0.out;simp;omega);have c7:=hp1.rcell;have BD:=ae (cO r n);have hz1:=fT r n;have HZ1:=ae hz1;clear hp1 c6 hz1;cases hpf:Lib.hasPrefix (bl (r.extract n r.size)) [46]
    ·have HPF:Hid (Lib.hasPrefix (bl (r.extract n r.size)) (bl ⟨#[46]⟩)=false):=hpf;have HR:Hid (kg (s.size+1) 7 [] (bl s)=some (ps++[⟨kd,(bl r).take n,0⟩],bl (r.extract n r.size))):=by
      show _=_;rw[HN.out,Eh HNN.out N0.out (fun t=>by rw[<-BD.out];exact Qi hpf t),BD.out]
     clear hpf;go_wp2_with fail;refine(pN _ _ _ HPF).mono ?_;rintro e w' ⟨rfl,rfl⟩;go_wp2;go_meet;exact⟨kd,_,_,rfl,rfl,HR,HP1,HA1⟩
    ·have HPF:Hid (Lib.hasPrefix (bl (r.extract n r.size)) (bl ⟨#[46]⟩)=true):=hpf;have hcons:=LE hpf;obtain⟨r1,hr1⟩:∃ r1,r1=r.extract n r.size:=⟨_,rfl⟩
     have HR1:=ae hr1;have hr1s:1<=r1.size:=by
      rcases Nat.eq_zero_or_pos r1.size with h0 | h0
      ·have h2:=bX r1 h0;rw[hr1] at h2;rw[h2] at hcons;cases hcons
      ·exact h0
     have HR:Hid (kg (s.size+1) 7 [] (bl s)=kg (fuel-1+1) 6 (ps++[⟨kd,(bl r).take n,0⟩]) (bl (r1.extract 1 r1.size))):=by
      show _=_;have hfz:fuel-1+1=fuel:=by have h1:=HZ1.out;rw[<-hr1] at h1;omega
      rw[cO r1 1,hr1,HN.out,Eg HNN.out N0.out (by rw[<-BD.out];exact hcons),hfz]
     have HFU:Hid ((r1.extract 1 r1.size).size<=fuel-1):=by show _<=_;rw[fT];have h1:=HZ1.out;rw[<-hr1] at h1;have:=N0.out;omega
     rw[<-hr1] at HP1 HA1 HPF c7;have fr:=HP1.out.rfree;have HA2:Hid (ww s (ps++[⟨kd,(bl r).take n,0⟩]) (r1.extract 1 r1.size)):=HA1.out.drop hr1s (by omega);have HP2:=ae (HP1.out.setRest (r1.extract 1 r1.size));have HS1:Hid (r1.size=r.size-n):=by have:=HZ1.out;rw[<-hr1] at this;exact this
     clear hpf hcons hr1;go_wp2_with fail;refine(ox _ _ _ HPF).mono ?_;rintro e w' ⟨rfl,rfl⟩;go_wp2;go_roundw
     case rel=>exact⟨fuel-1,6,_,_,rfl,rfl,HFU.out,HR,HP2,HA2⟩
     case measure=>
      rw[HP2.out.restSz,HP.out.restSz,fT];have:=HS1.out;have:=N0.out;omega
 case rest=>
 obtain⟨kd,ps,r,rfl,rfl,HN,HP,HA⟩:=hcut;have c6:=HP.out.rcell;have hrs:r.size<=64:=by have:=HA.out.le;omega
 go_upto_region 12 with(fail)
 go_cut [42] (fun s42 wx=>s42=.bool (LH (bl r))/\wc=wx)
 case first=>
  by_cases h0:r.size=0
  ·have he:r.toList=[]:=by rw[aj,bX r h0]
   have he2:r.toList.isEmpty=true:=by rw[he];rfl
   have E:Hid (LH (bl r)=false):=by show _=_;rw[bX r h0];rfl
   clear h0;go_wp2;go_meet;exact⟨by rw[E.out],rfl⟩
  ·have he2:r.toList.isEmpty=false:=by rw[aj,bj];exact dF h0
   have he:¬ r.toList=[]:=by intro h;rw[h] at he2;simp at he2
   have hp0:0<r.size:=by omega
   have E:Hid (LH (bl r)=jb r[0]):=by show _=_;rw[gU r hp0];rfl
   clear h0;go_wp2_with fail;refine(kT r[0] _).mono ?_;rintro e w' ⟨rfl,rfl⟩;go_wp2;go_meet;exact⟨by rw[E.out],rfl⟩
 case rest=>
 obtain⟨rfl,rfl⟩:=hcut;go_upto_if 42 with(fail)
 go_cut [44] (fun _ wx=>∃ (qs:List Pc) (t:BA),Hid (ow ps (bl r)=(qs,bl t))/\Hid (wv w wx qs t)/\Hid (ww s qs t))
 case first=>
  cases hl0:LH (bl r)
  ·have E:Hid (ow ps (bl r)=(ps,bl r)):=LI hl0;clear hl0;go_wp2;go_meet;exact⟨ps,r,E,HP,HA⟩
  ·have hp0:0<r.size:=OG hl0;have E:Hid (ow ps (bl r)=(ps++[⟨5,(bl r).take 1,0⟩],bl (r.extract 1 r.size))):=by show _=_;rw[cO];exact IG hl0
   have hpl:ps.length<=1000:=by have:=HA.out.le;omega
   clear hl0;go_wp2_with fail;refine(jf w 5 1 ps r _ (by omega) hrs hpl HP.out).mono ?_;rintro e w1 ⟨rfl,hp1⟩;have HP1:=ae hp1;have HA1:Hid (ww s (ps++[⟨5,(bl r).take 1,0⟩]) (r.extract 1 r.size)):=HA.out.drop (by omega) (by simp);clear hp1;go_wp2;go_meet;exact⟨_,_,E,HP1,HA1⟩
 case rest=>
 obtain⟨qs,t,HL,HP2,HA2⟩:=hcut;clear c6 hrs;go_upto_block 2 with(fail)
 go_cut [4] (fun s4 wx=>∃ (ps:List Pc) (r:BA),s4=.string ⟨#[]⟩/\Hid (hQ (t.size+1) qs (bl t)=some (ps,bl r))/\Hid (wv w wx ps r)/\Hid (ww s ps r))
 case first=>
  clear HP HA;go_wp2;go_loopw [4] (fun s4 wr=>∃ (fuel:Nat) (ps:List Pc) (r:BA),s4=.string ⟨#[]⟩/\r.size<=fuel/\Hid (hQ (t.size+1) qs (bl t)=hQ (fuel+1) ps (bl r))/\Hid (wv w wr ps r)/\Hid (ww s ps r)) (fun _ wr=>restSz w wr)
  case atStart=>exact⟨t.size,qs,t,rfl,lr,rfl,HP2,HA2⟩
  case round=>
   clear HP2 HA2;obtain⟨fuel,ps,r,rfl,hfu,HS,HP,HA⟩:=hrel;have c6:=HP.out.rcell;have hrs:r.size<=64:=by have:=HA.out.le;omega
   have hpl:ps.length<=64:=by have:=HA.out.le;omega
   cases hpf:Lib.hasPrefix (bl r) [95]
   ·have HPF:Hid (Lib.hasPrefix (bl r) (bl ⟨#[95]⟩)=false):=hpf;have HR:Hid (hQ (t.size+1) qs (bl t)=some (ps,bl r)):=by show _=_;rw[HS.out,Ei (Qi hpf)]
    clear hpf;go_wp2_with fail;refine(pO r ⟨#[95]⟩ false _ HPF).mono ?_;rintro e w' ⟨rfl,rfl⟩;go_wp2;go_meet;exact⟨ps,r,rfl,HR,HP,HA⟩
   ·have HPF:Hid (Lib.hasPrefix (bl r) (bl ⟨#[95]⟩)=true):=hpf;have hcons:=LE hpf;have hr1s:1<=r.size:=by
     rcases Nat.eq_zero_or_pos r.size with h0 | h0
     ·rw[bX r h0] at hcons;cases hcons
     ·exact h0
    have fr:=HP.out.rfree;obtain⟨r1,hr1⟩:∃ r1,r1=r.extract 1 r.size:=⟨_,rfl⟩
    have hz1:r1.size=r.size-1:=by rw[hr1];exact fT r 1
    have HC1:Hid (bl r=95::bl r1):=by show _=_;rw[hr1,cO];exact hcons
    have HP1:Hid (wv w (wr.setCell ⟨w.heap.size+1,0,none⟩ (.string r1)) ps r1):=HP.out.setRest r1;have HA1:Hid (ww s ps r1):=by show ww _ _ _;rw[hr1];exact HA.out.drop hr1s (by omega)
    have HR1:=ae hr1;have HZ1:=ae hz1;obtain⟨n,hn⟩:∃ n,n=aE jb (bl r1):=⟨_,rfl⟩
    have HNN:Hid (aE jb (bl r1)=n):=hn.symm;have hnl:n<=r1.size:=by have:=gC jb (bl r1);rw[ah] at this;omega
    clear hpf hcons hz1 hn;go_upto_region 16 with(first | (go_at_call 169;refine(pO r ⟨#[95]⟩ true _ HPF).mono ?_;rintro e w' ⟨rfl,rfl⟩) | fail)
    rw[<-hr1];have HR1b:=ae hr1;clear hr1 c6 fr;generalize hw1:wr.setCell ⟨w.heap.size+1,0,none⟩ (.string r1)=w1 at HP1 |-;clear hw1;have c7:=HP1.out.rcell;have hrs1:r1.size<=64:=by have:=HZ1.out;omega
    go_wp2_with fail;refine(zz r1 n _ (by omega) HNN).mono ?_;rintro e w' ⟨rfl,rfl⟩;have hn63:(n:Int)<=(r1.size:Int):=by omega
    go_wp2_with fail;refine(uo (r1.extract 0 n) _ (HG.out.below HP1.out.bel)).mono ?_;rintro e w' ⟨rfl,rfl⟩;cases hwd:mO ((bl r1).take n) with
    | none=>
     have hwi:QK (r1.extract 0 n)=-1:=by unfold QK;rw[ek,hwd]
     have E:Hid (un (bl s)=none):=by show _=_;unfold un;rw[ah,HN.out];simp only[HL.out,ah];rw[HS.out,HC1.out,Ej HNN.out hwd]
     rw[hwi];obtain⟨A,c,hl1,hl2⟩:=HP1.out.lcell;have fl:=HP1.out.lfree;clear hwd hwi hl2;go_wp2_with fail;refine bodyPost_ret (v:=.tuple #[.slice none 0 0,.string ⟨#[]⟩,.string ⟨#[]⟩,.bool false]) (by simp[results,Tryz.results122,go_sem,hl1]) rfl ?_;rw[E.out];exact⟨HP1.out.bel.setCell lr _,none,0,0,_,_,rfl⟩
    | some wd=>
     have hwi:QK (r1.extract 0 n)=(wd:Int):=by unfold QK;rw[ek,hwd]
     rw[hwi];have HWD:=ae hwd;have hwd9:wd<9:=II hwd;clear hwd hwi;go_upto_if 58 with(fail)
     go_cut [14] (fun s14 wx=>s14=.int .i64 (jg wd)/\w1=wx)
     case first=>
      by_cases h4:4<=wd
      ·have E4:Hid (jg wd=4):=by show _=_;unfold jg;rw[if_pos h4]
       go_wp2;go_meet;exact⟨by rw[E4.out],rfl⟩
      ·have E4:Hid (jg wd=0):=by show _=_;unfold jg;rw[if_neg h4]
       go_wp2;go_meet;exact⟨by rw[E4.out],rfl⟩
     case rest=>
     obtain⟨rfl,rfl⟩:=hcut;go_wp2_with fail;refine(jf w (jg wd) n ps r1 _ hnl hrs1 (by omega) HP1.out).mono ?_;rintro e w2 ⟨rfl,hp2⟩;have HP2:=ae hp2;obtain⟨r2,hr2⟩:∃ r2,r2=r1.extract n r1.size:=⟨_,rfl⟩
     rw[<-hr2] at HP2;have HZ2:Hid (r2.size=r1.size-n):=by show _=_;rw[hr2];exact fT r1 n
     have HB2:Hid (bl r2=(bl r1).drop n):=by show _=_;rw[hr2];exact cO r1 n
     have hnz:1<=n\/n=0:=by omega
     have HA2:Hid (ww s (ps++[⟨jg wd,(bl r1).take n,(wd:Int)⟩]) r2):=by
      show ww _ _ _;have h1:ww s (ps++[⟨jg wd,(bl r1).take n,(wd:Int)⟩]) r1:=⟨by have:=HA.out.le;have:=HZ1.out;simp;omega,HA1.out.tail⟩
      rw[hr2];exact h1.drop hnl (by omega)
     obtain⟨A,c,hl1,hl2⟩:=HP2.out.lcell;obtain⟨g,cap,hv,_,hgl⟩:=hl2.form (by simp);obtain⟨rfl,rfl⟩:A=some ⟨g,0,none⟩/\c=cap:=by injection hv with h1 _ h2;exact⟨h1,h2⟩
     obtain⟨N,hN⟩:∃ N,N=ps.length+1:=⟨_,rfl⟩
     have eN:(ps++[(⟨jg wd,(bl r1).take n,0⟩:Pc)]).length=N:=by rw[hN];simp
     rw[eN] at hl1;have HP3:Hid (wv w (w2.setCell ⟨g,ps.length*3+2,none⟩ (.int .i64 wd)) (ps++[⟨jg wd,(bl r1).take n,(wd:Int)⟩]) r2):=HP2.out.setWord wd hN hl1;have hNl:N<=1000:=by omega
     have hN1:1<=N:=by omega
     have cw:w2.cell? ⟨g,ps.length*3+2,none⟩=some (.int .i64 0):=by
      rw[hl2.cellAt (ps.length*3+2) (by simp;omega),ft LD _ ps.length 2 ⟨jg wd,(bl r1).take n,0⟩ (by simp) (by omega)];rfl
     have fw:w2.frozen? ⟨g,ps.length*3+2,none⟩=false:=hl2.frozenAt _;have hixl:=fun W=>zt (T:=159) (E:=198) (sz:=3) (c:=c) (n:=N) (k:=ps.length) (i:=(N:Int)-1) Tryz.underlying159 rfl Tryz.sizeOf198 (by omega) (A:=some ⟨g,0,none⟩) rfl (by omega) W;simp only[Nat.zero_add] at hixl;have HNN2:=ae hN;obtain⟨m,hm⟩:∃ m,m=aE cN (bl r2):=⟨_,rfl⟩
     have HMM:Hid (aE cN (bl r2)=m):=hm.symm;have hml:m<=r2.size:=by have:=gC cN (bl r2);rw[ah] at this;omega
     have hrs2:r2.size<=64:=by have:=HZ2.out;omega
     have HSM:Hid (hQ (t.size+1) qs (bl t)=hQ fuel (ps++[⟨jg wd,(bl r1).take n,(wd:Int)⟩]++(if 0<m then [⟨3,(bl r2).take m,0⟩] else [])) ((bl r2).drop m)):=by
      show _=_;rw[HS.out,HC1.out,Ek (m:=m) HNN.out HWD.out (by rw[<-HB2.out];exact HMM.out),HB2.out]
     have HR2:=ae hr2;clear hp2 hl2 hv hgl hN eN hm c7 hr2;go_upto_region 25 with(fail)
     generalize hw3:w2.setCell ⟨g,ps.length*3+2,none⟩ (.int .i64 wd)=w3 at HP3 |-;clear hw3 cw fw hixl hl1;have c8:=HP3.out.rcell;go_wp2_with fail;refine(pP r2 m _ (by omega) HMM).mono ?_;rintro e w' ⟨rfl,rfl⟩;by_cases m0:0<m
     ·have m0':decide (0<(m:Int))=true:=dT (by omega);have E3:Hid ((if 0<m then [(⟨3,(bl r2).take m,0⟩:Pc)] else [])=[⟨3,(bl r2).take m,0⟩]):=if_pos m0;go_wp2_with fail;refine(jf w 3 m _ r2 _ hml hrs2 (by simp;omega) HP3.out).mono ?_;rintro e w4 ⟨rfl,hp4⟩;have HP4:=ae hp4;have HA4:Hid (ww s (ps++[⟨jg wd,(bl r1).take n,(wd:Int)⟩]++[⟨3,(bl r2).take m,0⟩]) (r2.extract m r2.size)):=HA2.out.drop hml (by simp;omega);have HZ4:=ae (fT r2 m);have HSN:Hid (hQ (t.size+1) qs (bl t)=hQ (fuel-1+1) (ps++[⟨jg wd,(bl r1).take n,(wd:Int)⟩]++[⟨3,(bl r2).take m,0⟩]) (bl (r2.extract m r2.size))):=by
       show _=_;rw[HSM.out,E3.out,cO,show fuel-1+1=fuel by omega]
      clear hp4 c8;go_wp2;go_roundw
      case rel=>exact⟨fuel-1,_,_,rfl,by have h1:=HZ4.out;have h2:=HZ2.out;have h3:=HZ1.out;omega,HSN,HP4,HA4⟩
      case measure=>
       rw[HP4.out.restSz,HP.out.restSz];have h1:=HZ4.out;have h2:=HZ2.out;have h3:=HZ1.out;omega
     ·have m0':decide (0<(m:Int))=false:=dF (by omega);have mn:decide (0<m)=false:=dF (by omega);have HSN:Hid (hQ (t.size+1) qs (bl t)=hQ (fuel-1+1) (ps++[⟨jg wd,(bl r1).take n,(wd:Int)⟩]) (bl r2)):=by
       show _=_;rw[HSM.out,if_neg m0,List.append_nil,show m=0 by omega,List.drop_zero,show fuel-1+1=fuel by omega]
      clear c8;go_wp2;go_roundw
      case rel=>exact⟨fuel-1,_,_,rfl,by have h2:=HZ2.out;have h3:=HZ1.out;omega,HSN,HP3,HA2⟩
      case measure=>
       rw[HP3.out.restSz,HP.out.restSz];have h2:=HZ2.out;have h3:=HZ1.out;omega
 case rest=>
 clear HP2 HA2 HP HA;obtain⟨ps2,r2,rfl,HS,HP,HA⟩:=hcut;have E0:Hid (un (bl s)=sE (bl s) ps2 (bl r2)):=by show _=_;unfold un;rw[ah,HN.out];simp only[HL.out,ah];rw[HS.out]
 clear HN HS HL;have c6:=HP.out.rcell;have hrs:r2.size<=s.size:=by have:=HA.out.le;omega
 have hpl:ps2.length<=64:=by have:=HA.out.le;omega
 have i1:(s.size:Int)-(r2.size:Int)<=(s.size:Int):=by omega
 go_upto_region 29 with(fail)
 cases hpf:Lib.hasPrefix (bl r2) [45,114]
 ·have HPF:Hid (Lib.hasPrefix (bl r2) (bl ⟨#[45,114]⟩)=false):=hpf;have HE:=ae (OH (bl s) ps2 r2 hpf);clear hpf;go_wp2_with fail;refine(pN _ _ _ HPF).mono ?_;rintro e w' ⟨rfl,rfl⟩;have HQL:Hid (ps2.length<=200):=by show _<=_;omega
  by_cases h0:r2.size=0
  ·have he:r2.toList=[]:=by rw[aj,bX r2 h0]
   have he2:r2.toList.isEmpty=true:=by rw[he];rfl
   have HEB:Hid (decide (r2.size=0)=true):=dT h0;clear h0;go_upto_region 33 with(fail)
   obtain⟨i0,hi0,hz0,hz1,hz2⟩:=info_parts kh;obtain⟨A,c,hl1,hl2⟩:=HP.out.lcell;have HO:=ae hl2;have fl:=HP.out.lfree;have cr:=HP.out.rcell;have hsz:=HP.out.sz;have hq1:(ps2).length<=200:=HQL.out;generalize hps':(ps2).length=NN at *;clear hl2;have NL:Hid (some w.heap.size≠(Value.slice A NN c).ownBlock):=by intro he;have:=(HO.out.lt _ he.symm).1;omega
   have NR:Hid (some (w.heap.size+1)≠(Value.slice A NN c).ownBlock):=by intro he;have:=(HO.out.lt _ he.symm).1;omega
   have hl0:w.heap.size<wc.heap.size:=by omega
   have hl1':w.heap.size+1<wc.heap.size:=by omega
   have hn3:¬ w.heap.size=wc.heap.size:=by omega
   have hn4:¬ w.heap.size+1=wc.heap.size:=by omega
   have CL:Hid ((wc.alloc (.cells #[.int .i64 1,.string ⟨#[]⟩,.int .i64 0] 198)).drew.cell? ⟨w.heap.size,0,none⟩=some (.slice A NN c)):=(World.cell?_alloc_lt wc _ ⟨w.heap.size,0,none⟩ hl0).trans hl1;have FL:Hid ((wc.alloc (.cells #[.int .i64 1,.string ⟨#[]⟩,.int .i64 0] 198)).drew.frozen? ⟨w.heap.size,0,none⟩=false):=((bR.alloc lr _).frozen (p:=⟨w.heap.size,0,none⟩) hl0).trans fl;have CR:Hid ((wc.alloc (.cells #[.int .i64 1,.string ⟨#[]⟩,.int .i64 0] 198)).drew.cell? ⟨w.heap.size+1,0,none⟩=some (.string r2)):=(World.cell?_alloc_lt wc _ ⟨w.heap.size+1,0,none⟩ hl1').trans cr
   go_region_law
    ((refine dL _ (by rfl) _ _ _ (by rfl) (w.heap.size+2) 198 i0 _ 3 32 Tryz.underlying159 hi0 hz0 hz1 hz2 rfl (by omega) (.slice A NN c) NN _ (by rfl) ((HO.out.alloc _).drew)
       (wc.heap.size+1) (some ⟨wc.heap.size,0,none⟩) 1 1 [.int .i64 1,.string ⟨#[]⟩,.int .i64 0] (by rfl) (ki wc _ _ _ _) (by simp[Value.oneCell']) (by unfold maxLen;omega) (by omega) (by simp;omega) ?_
      intro v1 w2 o2 g2 a2;obtain⟨A1,c1,rfl⟩:=aN o2;have cl2:w2.cell? ⟨w.heap.size,0,none⟩=some (.slice A NN c):=g2.cell CL.out NL.out;have fl2:w2.frozen? ⟨w.heap.size,0,none⟩=false:=(World.frozen?_of_block (a:=⟨w.heap.size,0,none⟩) (g2.block w.heap.size (by simp;omega) NL.out)).trans FL.out;have cr2:w2.cell? ⟨w.heap.size+1,0,none⟩=some (.string r2):=g2.cell CR.out NR.out))
   all_goals
    go_wp2_with fail;refine bodyPost_ret (v:=.tuple #[.slice A1 (NN+1) c1,.string (s.extract 0 (s.size-r2.size)),.string ⟨#[]⟩,.bool true]) (by simp[results,Tryz.results122,go_sem,cl2]) rfl ?_;exact md E0.out HE.out HEB.out hps' HP.out.bel hsz HO.out g2 o2
  ·have he2:r2.toList.isEmpty=false:=by rw[aj,bj];exact dF h0
   have he:¬ r2.toList=[]:=by intro h;rw[h] at he2;simp at he2
   have HEB:Hid (decide (r2.size=0)=false):=dF h0;clear h0;go_upto_region 33 with(fail)
   obtain⟨i0,hi0,hz0,hz1,hz2⟩:=info_parts kh;obtain⟨A,c,hl1,hl2⟩:=HP.out.lcell;have HO:=ae hl2;have fl:=HP.out.lfree;have cr:=HP.out.rcell;have hsz:=HP.out.sz;have hq1:(ps2).length<=200:=HQL.out;generalize hps':(ps2).length=NN at *;clear hl2;have NL:Hid (some w.heap.size≠(Value.slice A NN c).ownBlock):=by intro he;have:=(HO.out.lt _ he.symm).1;omega
   have NR:Hid (some (w.heap.size+1)≠(Value.slice A NN c).ownBlock):=by intro he;have:=(HO.out.lt _ he.symm).1;omega
   have hl0:w.heap.size<wc.heap.size:=by omega
   have hl1':w.heap.size+1<wc.heap.size:=by omega
   have hn3:¬ w.heap.size=wc.heap.size:=by omega
   have hn4:¬ w.heap.size+1=wc.heap.size:=by omega
   have CL:Hid ((wc.alloc (.cells #[.int .i64 1,.string ⟨#[]⟩,.int .i64 0] 198)).drew.cell? ⟨w.heap.size,0,none⟩=some (.slice A NN c)):=(World.cell?_alloc_lt wc _ ⟨w.heap.size,0,none⟩ hl0).trans hl1;have FL:Hid ((wc.alloc (.cells #[.int .i64 1,.string ⟨#[]⟩,.int .i64 0] 198)).drew.frozen? ⟨w.heap.size,0,none⟩=false):=((bR.alloc lr _).frozen (p:=⟨w.heap.size,0,none⟩) hl0).trans fl;have CR:Hid ((wc.alloc (.cells #[.int .i64 1,.string ⟨#[]⟩,.int .i64 0] 198)).drew.cell? ⟨w.heap.size+1,0,none⟩=some (.string r2)):=(World.cell?_alloc_lt wc _ ⟨w.heap.size+1,0,none⟩ hl1').trans cr
   go_region_law
    ((refine dL _ (by rfl) _ _ _ (by rfl) (w.heap.size+2) 198 i0 _ 3 32 Tryz.underlying159 hi0 hz0 hz1 hz2 rfl (by omega) (.slice A NN c) NN _ (by rfl) ((HO.out.alloc _).drew)
       (wc.heap.size+1) (some ⟨wc.heap.size,0,none⟩) 1 1 [.int .i64 1,.string ⟨#[]⟩,.int .i64 0] (by rfl) (ki wc _ _ _ _) (by simp[Value.oneCell']) (by unfold maxLen;omega) (by omega) (by simp;omega) ?_
      intro v1 w2 o2 g2 a2;obtain⟨A1,c1,rfl⟩:=aN o2;have cl2:w2.cell? ⟨w.heap.size,0,none⟩=some (.slice A NN c):=g2.cell CL.out NL.out;have fl2:w2.frozen? ⟨w.heap.size,0,none⟩=false:=(World.frozen?_of_block (a:=⟨w.heap.size,0,none⟩) (g2.block w.heap.size (by simp;omega) NL.out)).trans FL.out;have cr2:w2.cell? ⟨w.heap.size+1,0,none⟩=some (.string r2):=g2.cell CR.out NR.out))
   all_goals
    go_wp2_with fail;refine bodyPost_ret (v:=.tuple #[.slice A1 (NN+1) c1,.string (s.extract 0 (s.size-r2.size)),.string ⟨#[]⟩,.bool false]) (by simp[results,Tryz.results122,go_sem,cl2]) rfl ?_;exact md E0.out HE.out HEB.out hps' HP.out.bel hsz HO.out g2 o2
 ·have HPF:Hid (Lib.hasPrefix (bl r2) (bl ⟨#[45,114]⟩)=true):=hpf;obtain⟨tl,htl⟩:∃ tl,tl=r2.extract 2 r2.size:=⟨_,rfl⟩
  have HTL:Hid (r2.extract (ByteArray.size ⟨#[45,114]⟩) r2.size=tl):=htl.symm;have HC:Hid (bl r2=45::114::bl tl):=by show _=_;rw[htl,cO];exact OI hpf
  have htz:tl.size<=64:=by rw[htl,fT];omega
  have h20:¬ r2.size=0:=by intro h;have:=HC.out;rw[bX r2 h] at this;cases this
  have fr:=HP.out.rfree;have HAT:Hid (ww s (ps2++[⟨2,(bl tl).take tl.size,0⟩]) tl):=by
   show ww _ _ _;have h2:2<=r2.size:=by have:=congrArg List.length HC.out;rw[ah] at this;simp at this;omega
   rw[htl];exact HA.out.drop h2 (by simp)
  clear hpf htl;go_wp2_with fail;refine(ox _ _ _ HPF).mono ?_;rintro e w' ⟨rfl,rfl⟩;rw[HTL.out];cases hnb:lV (bl tl)
  ·have HNB:=ae hnb;have HE:=ae (LK (bl s) ps2 r2 tl ⟨#[]⟩ HC.out hnb ((bl s).length-r2.size));have he2:r2.toList.isEmpty=false:=by rw[aj,bj];exact dF h20
   have he:¬ r2.toList=[]:=by intro h;rw[h] at he2;simp at he2
   have HEB:Hid (decide (r2.size=0)=false):=dF h20;have HQL:Hid (ps2.length<=200):=by show _<=_;omega
   clear hnb h20;go_wp2_with fail;refine(aR tl false _ (by omega) HNB).mono ?_;rintro e w' ⟨rfl,rfl⟩;clear fr;go_upto_region 33 with(fail)
   obtain⟨i0,hi0,hz0,hz1,hz2⟩:=info_parts kh;obtain⟨A,c,hl1,hl2⟩:=HP.out.lcell;have HO:=ae hl2;have fl:=HP.out.lfree;have cr:=HP.out.rcell;have hsz:=HP.out.sz;have hq1:(ps2).length<=200:=HQL.out;generalize hps':(ps2).length=NN at *;clear hl2;have NL:Hid (some w.heap.size≠(Value.slice A NN c).ownBlock):=by intro he;have:=(HO.out.lt _ he.symm).1;omega
   have NR:Hid (some (w.heap.size+1)≠(Value.slice A NN c).ownBlock):=by intro he;have:=(HO.out.lt _ he.symm).1;omega
   have hl0:w.heap.size<wc.heap.size:=by omega
   have hl1':w.heap.size+1<wc.heap.size:=by omega
   have hn3:¬ w.heap.size=wc.heap.size:=by omega
   have hn4:¬ w.heap.size+1=wc.heap.size:=by omega
   have CL:Hid ((wc.alloc (.cells #[.int .i64 1,.string ⟨#[]⟩,.int .i64 0] 198)).drew.cell? ⟨w.heap.size,0,none⟩=some (.slice A NN c)):=(World.cell?_alloc_lt wc _ ⟨w.heap.size,0,none⟩ hl0).trans hl1;have FL:Hid ((wc.alloc (.cells #[.int .i64 1,.string ⟨#[]⟩,.int .i64 0] 198)).drew.frozen? ⟨w.heap.size,0,none⟩=false):=((bR.alloc lr _).frozen (p:=⟨w.heap.size,0,none⟩) hl0).trans fl;have CR:Hid ((wc.alloc (.cells #[.int .i64 1,.string ⟨#[]⟩,.int .i64 0] 198)).drew.cell? ⟨w.heap.size+1,0,none⟩=some (.string r2)):=(World.cell?_alloc_lt wc _ ⟨w.heap.size+1,0,none⟩ hl1').trans cr
   go_region_law
    ((refine dL _ (by rfl) _ _ _ (by rfl) (w.heap.size+2) 198 i0 _ 3 32 Tryz.underlying159 hi0 hz0 hz1 hz2 rfl (by omega) (.slice A NN c) NN _ (by rfl) ((HO.out.alloc _).drew)
       (wc.heap.size+1) (some ⟨wc.heap.size,0,none⟩) 1 1 [.int .i64 1,.string ⟨#[]⟩,.int .i64 0] (by rfl) (ki wc _ _ _ _) (by simp[Value.oneCell']) (by unfold maxLen;omega) (by omega) (by simp;omega) ?_
      intro v1 w2 o2 g2 a2;obtain⟨A1,c1,rfl⟩:=aN o2;have cl2:w2.cell? ⟨w.heap.size,0,none⟩=some (.slice A NN c):=g2.cell CL.out NL.out;have fl2:w2.frozen? ⟨w.heap.size,0,none⟩=false:=(World.frozen?_of_block (a:=⟨w.heap.size,0,none⟩) (g2.block w.heap.size (by simp;omega) NL.out)).trans FL.out;have cr2:w2.cell? ⟨w.heap.size+1,0,none⟩=some (.string r2):=g2.cell CR.out NR.out))
   all_goals
    go_wp2_with fail;refine bodyPost_ret (v:=.tuple #[.slice A1 (NN+1) c1,.string (s.extract 0 (s.size-r2.size)),.string ⟨#[]⟩,.bool false]) (by simp[results,Tryz.results122,go_sem,cl2]) rfl ?_;exact md E0.out HE.out HEB.out hps' HP.out.bel hsz HO.out g2 o2
  ·have HNB:=ae hnb;clear hnb h20;go_wp2_with fail;refine(aR tl true _ (by omega) HNB).mono ?_;rintro e w' ⟨rfl,rfl⟩;have HP4:Hid (wv w (wc.setCell ⟨w.heap.size+1,0,none⟩ (.string tl)) ps2 tl):=HP.out.setRest tl;go_wp2_with fail;refine(jf w 2 tl.size ps2 tl _ lr htz (by omega) HP4.out).mono ?_;rintro e w5 ⟨rfl,hp5⟩;obtain⟨r5,hr5⟩:∃ r5,r5=tl.extract tl.size tl.size:=⟨_,rfl⟩
   rw[<-hr5] at hp5;have h50:r5.size=0:=by rw[hr5,fT];omega
   obtain⟨ps5,hps5⟩:∃ ps5,ps5=ps2++[(⟨2,(bl tl).take tl.size,0⟩:Pc)]:=⟨_,rfl⟩
   rw[<-hps5] at hp5;have HE:Hid (sE (bl s) ps2 (bl r2)=zA (bl s) ps5 ((bl s).length-r2.size) r5 tl):=by
    show _=_;rw[hps5,yZ];exact LJ (bl s) ps2 r2 tl HC.out HNB.out r5 h50
   have HQL:Hid (ps5.length<=200):=by show _<=_;rw[hps5];simp;omega
   have HP5:=ae hp5;have he:r5.toList=[]:=by rw[aj,bX r5 h50]
   have he2:r5.toList.isEmpty=true:=by rw[he];rfl
   have HEB:Hid (decide (r5.size=0)=true):=dT h50;clear hp5 hr5 h50 hps5 fr c6;go_upto_region 33 with(fail)
   obtain⟨i0,hi0,hz0,hz1,hz2⟩:=info_parts kh;obtain⟨A,c,hl1,hl2⟩:=HP5.out.lcell;have HO:=ae hl2;have fl:=HP5.out.lfree;have cr:=HP5.out.rcell;have hsz:=HP5.out.sz;have hq1:(ps5).length<=200:=HQL.out;generalize hps':(ps5).length=NN at *;clear hl2;have NL:Hid (some w.heap.size≠(Value.slice A NN c).ownBlock):=by intro he;have:=(HO.out.lt _ he.symm).1;omega
   have NR:Hid (some (w.heap.size+1)≠(Value.slice A NN c).ownBlock):=by intro he;have:=(HO.out.lt _ he.symm).1;omega
   have hl0:w.heap.size<w5.heap.size:=by omega
   have hl1':w.heap.size+1<w5.heap.size:=by omega
   have hn3:¬ w.heap.size=w5.heap.size:=by omega
   have hn4:¬ w.heap.size+1=w5.heap.size:=by omega
   have CL:Hid ((w5.alloc (.cells #[.int .i64 1,.string ⟨#[]⟩,.int .i64 0] 198)).drew.cell? ⟨w.heap.size,0,none⟩=some (.slice A NN c)):=(World.cell?_alloc_lt w5 _ ⟨w.heap.size,0,none⟩ hl0).trans hl1;have FL:Hid ((w5.alloc (.cells #[.int .i64 1,.string ⟨#[]⟩,.int .i64 0] 198)).drew.frozen? ⟨w.heap.size,0,none⟩=false):=((bR.alloc lr _).frozen (p:=⟨w.heap.size,0,none⟩) hl0).trans fl;have CR:Hid ((w5.alloc (.cells #[.int .i64 1,.string ⟨#[]⟩,.int .i64 0] 198)).drew.cell? ⟨w.heap.size+1,0,none⟩=some (.string r5)):=(World.cell?_alloc_lt w5 _ ⟨w.heap.size+1,0,none⟩ hl1').trans cr
   go_region_law
    ((refine dL _ (by rfl) _ _ _ (by rfl) (w.heap.size+2) 198 i0 _ 3 32 Tryz.underlying159 hi0 hz0 hz1 hz2 rfl (by omega) (.slice A NN c) NN _ (by rfl) ((HO.out.alloc _).drew)
       (w5.heap.size+1) (some ⟨w5.heap.size,0,none⟩) 1 1 [.int .i64 1,.string ⟨#[]⟩,.int .i64 0] (by rfl) (ki w5 _ _ _ _) (by simp[Value.oneCell']) (by unfold maxLen;omega) (by omega) (by simp;omega) ?_
      intro v1 w2 o2 g2 a2;obtain⟨A1,c1,rfl⟩:=aN o2;have cl2:w2.cell? ⟨w.heap.size,0,none⟩=some (.slice A NN c):=g2.cell CL.out NL.out;have fl2:w2.frozen? ⟨w.heap.size,0,none⟩=false:=(World.frozen?_of_block (a:=⟨w.heap.size,0,none⟩) (g2.block w.heap.size (by simp;omega) NL.out)).trans FL.out;have cr2:w2.cell? ⟨w.heap.size+1,0,none⟩=some (.string r5):=g2.cell CR.out NR.out))
   all_goals
    go_wp2_with fail;refine bodyPost_ret (v:=.tuple #[.slice A1 (NN+1) c1,.string (s.extract 0 (s.size-r2.size)),.string tl,.bool true]) (by simp[results,Tryz.results122,go_sem,cl2]) rfl ?_;exact md E0.out HE.out HEB.out hps' HP5.out.bel hsz HO.out g2 o2
end
end Go.Proofs.YtlglfpbhapmhiaaGreatDoor
