/- A part of the proof. -/
import Derived.Test.YtaohgmcbpafdeaaGreatDoorA11
import Derived.Test.YtaohgmcbpafdeaaGreatDoorA13
import Derived.Test.YtaohgmcbpafdeaaGreatDoorA22
set_option maxRecDepth 100000
set_option maxHeartbeats 20000000
set_option linter.unusedVariables false
set_option linter.unusedSimpArgs false
namespace Go.Proofs.YtaohgmcbpafdeaaGreatDoor
section
open Go.RowKit
theorem mz (s p:BA)(w:World)(h:Hid (Lib.hasPrefix (bl s) (bl p)=true)):
  Calls Tryz.prog 152 #[.string s,.string p] w fun e w'=>e=.returned (.tuple #[.string (s.extract p.size s.size),.bool true])∧w=w':=
 (Tryz.strings_CutPrefix s p w).mono fun e w' ⟨he,hw⟩=>⟨by
  have h1:Lib.hasPrefix s.data.toList p.data.toList=true:=h.out
  rw[he,h1]
  have h2:(⟨(Lib.trimPrefix s.data.toList p.data.toList).toArray⟩:BA)=s.extract p.size s.size:=by
   apply dY;rw[ii,cv]
   unfold Lib.trimPrefix;rw[h1]
   simp[bl]
  rw[h2],hw.symm⟩
theorem od (s p:BA)(w:World)(h:Hid (Lib.hasPrefix (bl s) (bl p)=false)):
  Calls Tryz.prog 152 #[.string s,.string p] w fun e w'=>e=.returned (.tuple #[.string s,.bool false])∧w=w':=
 (Tryz.strings_CutPrefix s p w).mono fun e w' ⟨he,hw⟩=>⟨by
  have h1:Lib.hasPrefix s.data.toList p.data.toList=false:=h.out
  rw[he,h1]
  have h2:(⟨(Lib.trimPrefix s.data.toList p.data.toList).toArray⟩:BA)=s:=by
   apply dY;rw[ii]
   unfold Lib.trimPrefix;rw[h1];rfl
  rw[h2],hw.symm⟩
theorem oe (s p:BA)(b:Bool)(w:World)(h:Hid (Lib.hasPrefix (bl s) (bl p)=b)):
  Calls Tryz.prog 18 #[.string s,.string p] w fun e w'=>e=.returned (.bool b)∧w=w':=
 (Tryz.strings_HasPrefix s p w).mono fun e w' ⟨he,hw⟩=>⟨by rw[he,show Lib.hasPrefix s.data.toList p.data.toList=b from h.out],hw.symm⟩
theorem oh (s:BA)(n:Nat)(w:World)(hs:s.size≤9223372036854775807)(h:Hid (aA cu (bl s)=n)):
  Calls Tryz.prog 151 #[.string s,.func (.func 148) #[] #[]] w fun e w'=>e=.returned (.int .i64 n)∧w=w':=by rw[←h.out];exact vr s w hs
theorem xd (s:BA)(n:Nat)(w:World)(hs:s.size≤9223372036854775807)(h:Hid (aA gK (bl s)=n)):
  Calls Tryz.prog 151 #[.string s,.func (.func 153) #[] #[]] w fun e w'=>e=.returned (.int .i64 n)∧w=w':=by rw[←h.out];exact EI s w hs
def sr (r:Option (List Pc×LU×LU))(w:World)(e:Ending)(w':World):Prop:=
 Below w.heap.size w w'∧match r with
  | none=>∃ (A:OA) (n c:Nat) (p q:BA),e=.returned (.tuple #[.slice A n c,.string p,.string q,.bool false])
  | some (ps,p,q)=>∃ (A:OA) (c:Nat),e=.returned (.tuple #[.slice A ps.length c,.string ⟨p.toArray⟩,.string ⟨q.toArray⟩,.bool true])∧Rd w' 3 A ps.length (ps.flatMap Pc.cells)
theorem ut.start (w:World)(s:BA):ut w ((w.alloc (.cells #[.slice none 0 0] 168)).alloc (.cells #[.string s] 9)) [] s:=
 ⟨⟨none,0,by simp,World.ownsRow_nil _ _ _ _⟩,by simp,by simp,by simp,(bR.alloc lr _).alloc (by simp) _,by simp⟩
theorem IN {l:LU}{c:UInt8}(h:Lib.hasPrefix l [c]=true):l=c::l.drop 1:=by
 cases l with
 | nil=>simp[Lib.hasPrefix] at h
 | cons a r=>simp[Lib.hasPrefix] at h;simp[h]
theorem My {l:LU}{c:UInt8}(h:Lib.hasPrefix l [c]=false)(t:LU):l≠c::t:=by
 intro e;subst e;simp[Lib.hasPrefix] at h
theorem Bv {k:Nat}{kind:Int}{acc:List Pc}{l:LU}(h:aA cu l=0):iQ (k+1) kind acc l=none:=by unfold iQ;rw[if_pos h]
theorem By {k n:Nat}{kind:Int}{acc:List Pc}{l r:LU}(hn:aA cu l=n)(h0:n≠0)(h:l.drop n=46::r):iQ (k+1) kind acc l=iQ k 6 (acc++[⟨kind,l.take n,0⟩]) r:=by
 subst hn
 conv=>lhs;unfold iQ
 rw[if_neg h0,h]
 simp
theorem Bz {k n:Nat}{kind:Int}{acc:List Pc}{l:LU}(hn:aA cu l=n)(h0:n≠0)(h:∀ r,l.drop n≠46::r):iQ (k+1) kind acc l=some (acc++[⟨kind,l.take n,0⟩],l.drop n):=by
 subst hn
 conv=>lhs;unfold iQ
 rw[if_neg h0]
 split
 ·rename_i r hr;exact absurd hr (h r)
 ·rfl
def restSz (w wr:World):Nat:=match wr.cell? ⟨w.heap.size+1,0,none⟩ with | some (.string r)=>r.size | _=>0
theorem ut.restSz {w wr:World}{ps:List Pc}{r:BA}(h:ut w wr ps r):restSz w wr=r.size:=by unfold Go.Proofs.YtaohgmcbpafdeaaGreatDoor.restSz;rw[h.rcell]
theorem eO (r:BA)(n:Nat):(r.extract n r.size).size=r.size-n:=by
 have:=congrArg List.length (cv r n)
 rw[ag,List.length_drop,ag] at this;exact this
structure uu (s:BA) (ps:List Pc) (r:BA):Prop where
 le:ps.length+r.size≤s.size
 tail:bl r=(bl s).drop (s.size-r.size)
theorem uu.start (s:BA):uu s [] s:=⟨by simp,by simp⟩
theorem uu.drop {s:BA}{ps qs:List Pc}{r:BA}(h:uu s ps r){n:Nat}(hn:n≤r.size)(hq:qs.length≤ps.length+n):uu s qs (r.extract n r.size):=by
 have hz:=eO r n
 refine⟨by rw[hz];have:=h.le;omega,?_⟩
 rw[cv,h.tail,List.drop_drop,hz]
 congr 1;have:=h.le;omega
def IP:LU→Bool
 | c::_=>gK c
 | []=>false
theorem IQ {acc:List Pc}{l:LU}(h:IP l=false):my acc l=(acc,l):=by
 cases l with
 | nil=>rfl
 | cons c r=>simp only[IP] at h;simp[my,h]
theorem Fl {acc:List Pc}{l:LU}(h:IP l=true):my acc l=(acc++[⟨5,l.take 1,0⟩],l.drop 1):=by
 cases l with
 | nil=>simp[IP] at h
 | cons c r=>simp only[IP] at h;simp[my,h]
theorem Ls {r:BA}(h:IP (bl r)=true):0<r.size:=by
 rcases Nat.eq_zero_or_pos r.size with h0 | h0
 ·rw[bG r h0] at h;simp[IP] at h
 ·exact h0
theorem BC {k:Nat}{acc:List Pc}{l:LU}(h:∀ t,l≠95::t):fM (k+1) acc l=some (acc,l):=by
 unfold fM
 split
 ·rename_i r;exact absurd rfl (h r)
 ·rfl
theorem DT (x:LU):∀ (l:List (LU))(k:Nat),uI l x=some k→k<l.length
 | [],k,h=>by simp[uI] at h
 | a::r,k,h=>by
  unfold uI at h
  split at h
  ·injection h with h;subst h;simp
  ·obtain⟨j,hj,rfl⟩:=Option.map_eq_some_iff.1 h
   have:=DT x r j hj
   simp;omega
theorem Fm {l:LU}{k:Nat}(h:kZ l=some k):k<9:=DT l xc k h
def gP (wd:Nat):Int:=if 4≤wd then 4 else 0
theorem BE {k n:Nat}{acc:List Pc}{r:LU}(hn:aA gK r=n)(h:kZ (r.take n)=none):fM (k+1) acc (95::r)=none:=by
 subst hn
 conv=>lhs;unfold fM
 simp only[h]
theorem BF {k n m wd:Nat}{acc:List Pc}{r:LU}(hn:aA gK r=n)(h:kZ (r.take n)=some wd)(hm:aA cu (r.drop n)=m):
  fM (k+1) acc (95::r)=fM k (acc++[⟨gP wd,r.take n,wd⟩]++(if 0<m then [⟨3,(r.drop n).take m,0⟩] else [])) ((r.drop n).drop m):=by
 subst hn hm
 conv=>lhs;unfold fM
 simp only[h,gP]
theorem ut.setWord {w wr:World}{ps:List Pc}{x:Pc}{r:BA}(h:ut w wr (ps++[x]) r)(wd:Int){g c N:Nat}(hN:N=ps.length+1)(hc:wr.cell? ⟨w.heap.size,0,none⟩=some (.slice (some ⟨g,0,none⟩) N c)):
  ut w (wr.setCell ⟨g,ps.length*3+2,none⟩ (.int .i64 wd)) (ps++[{ x with word:=wd }]) r:=by
 obtain⟨⟨A,c',h1,h2⟩,h3,h4,h5,h6,h7⟩:=h
 rw[h1] at hc;injection hc with hc;injection hc with hA _ hcc
 subst hA hcc
 have hgb:=(h2.lt g rfl)
 have hg:wr.grownBy (wr.setCell ⟨g,ps.length*3+2,none⟩ (.int .i64 wd)) (some g):=aY (World.grownBy.refl wr (some g)) (.inl rfl) _
 have e1:(ps++[x]).length=(ps++[{ x with word:=wd }]).length:=by simp
 have hst:=(h2.stored (ps.length*3+2) (.int .i64 wd)).1
 have e2:((ps++[x]).flatMap Pc.cells).set (ps.length*3+2) (.int .i64 wd)=(ps++[{ x with word:=wd }]).flatMap Pc.cells:=by
  have hl:(ps.flatMap Pc.cells).length=ps.length*3:=eu IM ps
  rw[List.flatMap_append,List.flatMap_append,List.set_append_right _ _ (by omega),hl,show ps.length*3+2-ps.length*3=2 from by omega]
  simp[Pc.cells]
 rw[e2] at hst
 refine⟨⟨some ⟨g,0,none⟩,c',hg.cell (by rw[←e1];exact h1) (by simp;omega),by rw[←e1];exact hst⟩,by rw[World.frozen?_setCell];exact h3,hg.cell h4 (by simp;omega),by rw[World.frozen?_setCell];exact h5,h6.grown hg h6.size (fun j hj=>by injection hj with hj;omega),Nat.le_trans h7 hg.size⟩
def xf (l:LU)(acc:List Pc)(k:Nat)(r q:BA):Option (List Pc×LU×LU):=if r.size=0 then some (acc++[⟨1,[],0⟩],l.take k,bl q) else none
theorem Lt (l:LU)(acc:List Pc)(r:BA)(h:Lib.hasPrefix (bl r) [45,114]=false):qr l acc (bl r)=xf l acc (l.length-r.size) r ⟨#[]⟩:=by
 unfold xf
 by_cases h0:r.size=0
 ·rw[if_pos h0,bG r h0,h0];simp[qr,bl]
 ·rw[if_neg h0]
  have hc:=fG r (by omega)
  unfold qr
  split
  ·rename_i he;rw[he] at hc;cases hc
  ·rename_i t he;rw[he] at h;simp[Lib.hasPrefix] at h
  ·rfl
theorem Lu {l:LU}(h:Lib.hasPrefix l [45,114]=true):l=45::114::l.drop 2:=by
 cases l with
 | nil=>simp[Lib.hasPrefix] at h
 | cons a r=>
  cases r with
  | nil=>simp[Lib.hasPrefix] at h
  | cons b r=>simp[Lib.hasPrefix] at h;simp[h.1,h.2]
theorem IR (l:LU)(acc:List Pc)(r t:BA)(h:bl r=45::114::bl t)(hn:kf (bl t)=true)(e:BA)(he:e.size=0):qr l acc (bl r)=xf l (acc++[⟨2,bl t,0⟩]) (l.length-r.size) e t:=by
 unfold xf
 have hl:=congrArg List.length h
 rw[ag] at hl
 rw[if_pos he,h,qr,if_pos hn,←h,ag]
theorem IS (l:LU)(acc:List Pc)(r t q:BA)(h:bl r=45::114::bl t)(hn:kf (bl t)=false)(k:Nat):qr l acc (bl r)=xf l acc k r q:=by
 unfold xf
 have hl:=congrArg List.length h
 rw[ag] at hl
 rw[if_neg (by simp at hl;omega),h,qr,if_neg (by rw[hn];simp)]
theorem kk {w W w2:World}{s r2 r q:BA}{ps0 ps:List Pc}{NN:Nat}{A A1:OA}{c c1:Nat}{b:Bool}{o:Obj}(h0:sn (bl s)=qr (bl s) ps0 (bl r2))(h1:qr (bl s) ps0 (bl r2)=xf (bl s) ps ((bl s).length-r2.size) r q)(hb:decide (r.size=0)=b)(hn:ps.length=NN)
  (hbel:Below w.heap.size w W)(hsz:w.heap.size+2≤W.heap.size)(ho:W.ownsRow (w.heap.size+2) 207 3 (.slice A NN c) NN (ps.flatMap Pc.cells))(g2:(W.alloc o).drew.grownBy w2 (Value.slice A NN c).ownBlock)
  (o2:w2.ownsRow (w.heap.size+2) 207 3 (.slice A1 (NN+1) c1) (NN+1) (ps.flatMap Pc.cells++[.int .i64 1,.string ⟨#[]⟩,.int .i64 0])):
  sr (sn (bl s)) w (.returned (.tuple #[.slice A1 (NN+1) c1,.string (s.extract 0 (s.size-r2.size)),.string q,.bool b])) (w2.setCell ⟨w.heap.size,0,none⟩ (.slice A1 (NN+1) c1)):=by
 have b2:Below w.heap.size w w2:=(an (hbel.alloc hbel.size o) 1).grown g2 (by simp;omega) (fun j hj=>by have:=(ho.lt j hj).1;omega)
 have hg:w2.grownBy (w2.setCell ⟨w.heap.size,0,none⟩ (.slice A1 (NN+1) c1)) (some w.heap.size):=aY (World.grownBy.refl w2 (some w.heap.size)) (.inl rfl) _
 refine⟨b2.grown hg b2.size (fun j hj=>by injection hj with hj;omega),?_⟩
 rw[h0,h1]
 unfold xf
 cases b with
 | false=>
  rw[if_neg (of_decide_eq_false hb)]
  exact⟨_,_,_,_,_,rfl⟩
 | true=>
  rw[if_pos (dO hb)]
  have e1:(ps++[(⟨1,[],0⟩:Pc)]).length=NN+1:=by simp[hn]
  have e2:(ps++[(⟨1,[],0⟩:Pc)]).flatMap Pc.cells=ps.flatMap Pc.cells++[.int .i64 1,.string ⟨#[]⟩,.int .i64 0]:=by rw[List.flatMap_append];rfl
  refine⟨A1,c1,?_,?_⟩
  ·rw[e1]
   have e3:(⟨((bl s).take ((bl s).length-r2.size)).toArray⟩:BA)=s.extract 0 (s.size-r2.size):=by apply dY;rw[ii,dw,ag]
   have e4:(⟨(bl q).toArray⟩:BA)=q:=by apply dY;rw[ii]
   simp only[e3,e4]
  ·rw[e1,e2]
   refine cH (o2.kept hg ?_)
   cases hq:(Value.slice A1 (NN+1) c1).ownBlock with
   | none=>exact .inl rfl
   | some k=>right;intro he;injection he with he;have:=(o2.lt k hq).1;omega
theorem su (s:BA)(w:World)(hG:Gl w)(hs:s.size≤64):
  Calls Tryz.prog 110 #[.string s] w (sr (sn (bl s)) w):=by
 have HG:=ae hG;clear hG
 go_enter Tryz.func110,Tryz.ntmps110
 go_upto_block 0 with(fail)
 go_cut [4,8] (fun s4 s8 wx=>∃ (kd:Int) (ps:List Pc) (r:BA),s4=.string ⟨#[]⟩∧s8=.int .i64 kd∧Hid (iQ (s.size+1) 7 [] (bl s)=some (ps,bl r))∧Hid (ut w wx ps r)∧Hid (uu s ps r))
 case first=>
  go_wp2_with fail
  go_loopw [4,8] (fun s4 s8 wr=>∃ (fuel:Nat) (kd:Int) (ps:List Pc) (r:BA),s4=.string ⟨#[]⟩∧s8=.int .i64 kd∧r.size≤fuel∧Hid (iQ (s.size+1) 7 [] (bl s)=iQ (fuel+1) kd ps (bl r))∧Hid (ut w wr ps r)∧Hid (uu s ps r)) (fun _ _ wr=>restSz w wr)
  case atStart=>exact⟨s.size,7,[],s,rfl,rfl,lr,rfl,ut.start w s,uu.start s⟩
  case round=>
   obtain⟨fuel,kd,ps,r,rfl,rfl,hfu,HN,HP,HA⟩:=hrel
   have c6:=HP.out.rcell
   have hrs:r.size≤64:=by have:=HA.out.le;omega
   have hpl:ps.length≤1000:=by have:=HA.out.le;omega
   obtain⟨n,hn⟩:∃ n,n=aA cu (bl r):=⟨_,rfl⟩
   have HNN:Hid (aA cu (bl r)=n):=hn.symm
   have hnl:n≤r.size:=by have:=fh cu (bl r);rw[ag] at this;omega
   clear hn
   go_wp2_with fail
   refine(oh r n _ (by omega) HNN).mono ?_;rintro e w' ⟨rfl,rfl⟩
   by_cases n0:n=0
   ·have n0':((n:Int)==0)=true:=mU n0
    have E:Hid (sn (bl s)=none):=by show _=_;unfold sn;rw[ag,HN.out,Bv (by rw[HNN.out];exact n0)]
    obtain⟨A,c,hl1,hl2⟩:=HP.out.lcell
    have fl:=HP.out.lfree
    clear n0 hl2
    go_wp2_with fail
    refine bodyPost_ret (v:=.tuple #[.slice none 0 0,.string ⟨#[]⟩,.string ⟨#[]⟩,.bool false]) (by simp[results,Tryz.results110,go_sem,hl1]) rfl ?_
    rw[E.out]
    exact⟨HP.out.bel.setCell lr _,none,0,0,_,_,rfl⟩
   ·have n0':((n:Int)==0)=false:=kU n0
    have N0:uD (n=0):=⟨n0⟩
    clear n0
    go_wp2_with fail
    refine(gO w kd n ps r _ hnl hrs hpl HP.out).mono ?_;rintro e w1 ⟨rfl,hp1⟩
    have HP1:=ae hp1
    have HA1:Hid (uu s (ps++[⟨kd,(bl r).take n,0⟩]) (r.extract n r.size)):=HA.out.drop hnl (by have:=N0.out;simp;omega)
    have c7:=hp1.rcell
    have BD:=ae (cv r n)
    have hz1:=eO r n
    have HZ1:=ae hz1
    clear hp1 c6 hz1
    cases hpf:Lib.hasPrefix (bl (r.extract n r.size)) [46]
    ·have HPF:Hid (Lib.hasPrefix (bl (r.extract n r.size)) (bl ⟨#[46]⟩)=false):=hpf
     have HR:Hid (iQ (s.size+1) 7 [] (bl s)=some (ps++[⟨kd,(bl r).take n,0⟩],bl (r.extract n r.size))):=by
      show _=_;rw[HN.out,Bz HNN.out N0.out (fun t=>by rw[←BD.out];exact My hpf t),BD.out]
     clear hpf
     go_wp2_with fail
     refine(od _ _ _ HPF).mono ?_;rintro e w' ⟨rfl,rfl⟩
     go_wp2_with fail
     go_meet
     exact⟨kd,_,_,rfl,rfl,HR,HP1,HA1⟩
    ·have HPF:Hid (Lib.hasPrefix (bl (r.extract n r.size)) (bl ⟨#[46]⟩)=true):=hpf
     have hcons:=IN hpf
     obtain⟨r1,hr1⟩:∃ r1,r1=r.extract n r.size:=⟨_,rfl⟩
     have HR1:=ae hr1
     have hr1s:1≤r1.size:=by
      rcases Nat.eq_zero_or_pos r1.size with h0 | h0
      ·have h2:=bG r1 h0
       rw[hr1] at h2;rw[h2] at hcons;cases hcons
      ·exact h0
     have HR:Hid (iQ (s.size+1) 7 [] (bl s)=iQ (fuel-1+1) 6 (ps++[⟨kd,(bl r).take n,0⟩]) (bl (r1.extract 1 r1.size))):=by
      show _=_
      have hfz:fuel-1+1=fuel:=by have h1:=HZ1.out;rw[←hr1] at h1;omega
      rw[cv r1 1,hr1,HN.out,By HNN.out N0.out (by rw[←BD.out];exact hcons),hfz]
     have HFU:Hid ((r1.extract 1 r1.size).size≤fuel-1):=by show _≤_;rw[eO];have h1:=HZ1.out;rw[←hr1] at h1;have:=N0.out;omega
     rw[←hr1] at HP1 HA1 HPF c7
     have fr:=HP1.out.rfree
     have HA2:Hid (uu s (ps++[⟨kd,(bl r).take n,0⟩]) (r1.extract 1 r1.size)):=HA1.out.drop hr1s (by omega)
     have HP2:=ae (HP1.out.setRest (r1.extract 1 r1.size))
     have HS1:Hid (r1.size=r.size-n):=by have:=HZ1.out;rw[←hr1] at this;exact this
     clear hpf hcons hr1
     go_wp2_with fail
     refine(mz _ _ _ HPF).mono ?_;rintro e w' ⟨rfl,rfl⟩
     go_wp2_with fail
     go_roundw
     case rel=>exact⟨fuel-1,6,_,_,rfl,rfl,HFU.out,HR,HP2,HA2⟩
     case measure=>
      rw[HP2.out.restSz,HP.out.restSz,eO]
      have:=HS1.out;have:=N0.out;omega
 case rest=>
 obtain⟨kd,ps,r,rfl,rfl,HN,HP,HA⟩:=hcut
 have c6:=HP.out.rcell
 have hrs:r.size≤64:=by have:=HA.out.le;omega
 go_upto_region 12 with(fail)
 go_cut [42] (fun s42 wx=>s42=.bool (IP (bl r))∧wc=wx)
 case first=>
  by_cases h0:r.size=0
  ·have he:r.toList=[]:=by rw[ah,bG r h0]
   have he2:r.toList.isEmpty=true:=by rw[he];rfl
   have E:Hid (IP (bl r)=false):=by show _=_;rw[bG r h0];rfl
   clear h0
   go_wp2_with fail
   go_meet
   exact⟨by rw[E.out],rfl⟩
  ·have he2:r.toList.isEmpty=false:=by rw[ah,aT];exact dF h0
   have he:¬ r.toList=[]:=by intro h;rw[h] at he2;simp at he2
   have hp0:0<r.size:=by omega
   have E:Hid (IP (bl r)=gK r[0]):=by show _=_;rw[fG r hp0];rfl
   clear h0
   go_wp2_with fail
   refine(jr r[0] _).mono ?_;rintro e w' ⟨rfl,rfl⟩
   go_wp2_with fail
   go_meet
   exact⟨by rw[E.out],rfl⟩
 case rest=>
 obtain⟨rfl,rfl⟩:=hcut
 go_upto_if 42 with(fail)
 go_cut [44] (fun _ wx=>∃ (qs:List Pc) (t:BA),Hid (my ps (bl r)=(qs,bl t))∧Hid (ut w wx qs t)∧Hid (uu s qs t))
 case first=>
  cases hl0:IP (bl r)
  ·have E:Hid (my ps (bl r)=(ps,bl r)):=IQ hl0
   clear hl0
   go_wp2_with fail
   go_meet
   exact⟨ps,r,E,HP,HA⟩
  ·have hp0:0<r.size:=Ls hl0
   have E:Hid (my ps (bl r)=(ps++[⟨5,(bl r).take 1,0⟩],bl (r.extract 1 r.size))):=by show _=_;rw[cv];exact Fl hl0
   have hpl:ps.length≤1000:=by have:=HA.out.le;omega
   clear hl0
   go_wp2_with fail
   refine(gO w 5 1 ps r _ (by omega) hrs hpl HP.out).mono ?_;rintro e w1 ⟨rfl,hp1⟩
   have HP1:=ae hp1
   have HA1:Hid (uu s (ps++[⟨5,(bl r).take 1,0⟩]) (r.extract 1 r.size)):=HA.out.drop (by omega) (by simp)
   clear hp1
   go_wp2_with fail
   go_meet
   exact⟨_,_,E,HP1,HA1⟩
 case rest=>
 obtain⟨qs,t,HL,HP2,HA2⟩:=hcut
 clear c6 hrs
 go_upto_block 2 with(fail)
 go_cut [4] (fun s4 wx=>∃ (ps:List Pc) (r:BA),s4=.string ⟨#[]⟩∧Hid (fM (t.size+1) qs (bl t)=some (ps,bl r))∧Hid (ut w wx ps r)∧Hid (uu s ps r))
 case first=>
  clear HP HA
  go_wp2_with fail
  go_loopw [4] (fun s4 wr=>∃ (fuel:Nat) (ps:List Pc) (r:BA),s4=.string ⟨#[]⟩∧r.size≤fuel∧Hid (fM (t.size+1) qs (bl t)=fM (fuel+1) ps (bl r))∧Hid (ut w wr ps r)∧Hid (uu s ps r)) (fun _ wr=>restSz w wr)
  case atStart=>exact⟨t.size,qs,t,rfl,lr,rfl,HP2,HA2⟩
  case round=>
   clear HP2 HA2
   obtain⟨fuel,ps,r,rfl,hfu,HS,HP,HA⟩:=hrel
   have c6:=HP.out.rcell
   have hrs:r.size≤64:=by have:=HA.out.le;omega
   have hpl:ps.length≤64:=by have:=HA.out.le;omega
   cases hpf:Lib.hasPrefix (bl r) [95]
   ·have HPF:Hid (Lib.hasPrefix (bl r) (bl ⟨#[95]⟩)=false):=hpf
    have HR:Hid (fM (t.size+1) qs (bl t)=some (ps,bl r)):=by show _=_;rw[HS.out,BC (My hpf)]
    clear hpf
    go_wp2_with fail
    refine(oe r ⟨#[95]⟩ false _ HPF).mono ?_;rintro e w' ⟨rfl,rfl⟩
    go_wp2_with fail
    go_meet
    exact⟨ps,r,rfl,HR,HP,HA⟩
   ·have HPF:Hid (Lib.hasPrefix (bl r) (bl ⟨#[95]⟩)=true):=hpf
    have hcons:=IN hpf
    have hr1s:1≤r.size:=by
     rcases Nat.eq_zero_or_pos r.size with h0 | h0
     ·rw[bG r h0] at hcons;cases hcons
     ·exact h0
    have fr:=HP.out.rfree
    obtain⟨r1,hr1⟩:∃ r1,r1=r.extract 1 r.size:=⟨_,rfl⟩
    have hz1:r1.size=r.size-1:=by rw[hr1];exact eO r 1
    have HC1:Hid (bl r=95::bl r1):=by show _=_;rw[hr1,cv];exact hcons
    have HP1:Hid (ut w (wr.setCell ⟨w.heap.size+1,0,none⟩ (.string r1)) ps r1):=HP.out.setRest r1
    have HA1:Hid (uu s ps r1):=by show uu _ _ _;rw[hr1];exact HA.out.drop hr1s (by omega)
    have HR1:=ae hr1
    have HZ1:=ae hz1
    obtain⟨n,hn⟩:∃ n,n=aA gK (bl r1):=⟨_,rfl⟩
    have HNN:Hid (aA gK (bl r1)=n):=hn.symm
    have hnl:n≤r1.size:=by have:=fh gK (bl r1);rw[ag] at this;omega
    clear hpf hcons hz1 hn
    go_upto_region 16 with(first | (go_at_call 18;refine(oe r ⟨#[95]⟩ true _ HPF).mono ?_;rintro e w' ⟨rfl,rfl⟩) | fail)
    rw[←hr1]
    have HR1b:=ae hr1
    clear hr1 c6 fr
    generalize hw1:wr.setCell ⟨w.heap.size+1,0,none⟩ (.string r1)=w1 at HP1 ⊢
    clear hw1
    have c7:=HP1.out.rcell
    have hrs1:r1.size≤64:=by have:=HZ1.out;omega
    go_wp2_with fail
    refine(xd r1 n _ (by omega) HNN).mono ?_;rintro e w' ⟨rfl,rfl⟩
    have hn63:(n:Int)≤(r1.size:Int):=by omega
    go_wp2_with fail
    refine(sq (r1.extract 0 n) _ (HG.out.below HP1.out.bel)).mono ?_;rintro e w' ⟨rfl,rfl⟩
    cases hwd:kZ ((bl r1).take n) with
    | none=>
     have hwi:Na (r1.extract 0 n)=-1:=by unfold Na;rw[dw,hwd]
     have E:Hid (sn (bl s)=none):=by show _=_;unfold sn;rw[ag,HN.out];simp only[HL.out,ag];rw[HS.out,HC1.out,BE HNN.out hwd]
     rw[hwi]
     obtain⟨A,c,hl1,hl2⟩:=HP1.out.lcell
     have fl:=HP1.out.lfree
     clear hwd hwi hl2
     go_wp2_with fail
     refine bodyPost_ret (v:=.tuple #[.slice none 0 0,.string ⟨#[]⟩,.string ⟨#[]⟩,.bool false]) (by simp[results,Tryz.results110,go_sem,hl1]) rfl ?_
     rw[E.out]
     exact⟨HP1.out.bel.setCell lr _,none,0,0,_,_,rfl⟩
    | some wd=>
     have hwi:Na (r1.extract 0 n)=(wd:Int):=by unfold Na;rw[dw,hwd]
     rw[hwi]
     have HWD:=ae hwd
     have hwd9:wd<9:=Fm hwd
     clear hwd hwi
     go_upto_if 58 with(fail)
     go_cut [14] (fun s14 wx=>s14=.int .i64 (gP wd)∧w1=wx)
     case first=>
      by_cases h4:4≤wd
      ·have E4:Hid (gP wd=4):=by show _=_;unfold gP;rw[if_pos h4]
       go_wp2_with fail
       go_meet
       exact⟨by rw[E4.out],rfl⟩
      ·have E4:Hid (gP wd=0):=by show _=_;unfold gP;rw[if_neg h4]
       go_wp2_with fail
       go_meet
       exact⟨by rw[E4.out],rfl⟩
     case rest=>
     obtain⟨rfl,rfl⟩:=hcut
     go_wp2_with fail
     refine(gO w (gP wd) n ps r1 _ hnl hrs1 (by omega) HP1.out).mono ?_;rintro e w2 ⟨rfl,hp2⟩
     have HP2:=ae hp2
     obtain⟨r2,hr2⟩:∃ r2,r2=r1.extract n r1.size:=⟨_,rfl⟩
     rw[←hr2] at HP2
     have HZ2:Hid (r2.size=r1.size-n):=by show _=_;rw[hr2];exact eO r1 n
     have HB2:Hid (bl r2=(bl r1).drop n):=by show _=_;rw[hr2];exact cv r1 n
     have hnz:1≤n∨n=0:=by omega
     have HA2:Hid (uu s (ps++[⟨gP wd,(bl r1).take n,(wd:Int)⟩]) r2):=by
      show uu _ _ _
      have h1:uu s (ps++[⟨gP wd,(bl r1).take n,(wd:Int)⟩]) r1:=⟨by have:=HA.out.le;have:=HZ1.out;simp;omega,HA1.out.tail⟩
      rw[hr2];exact h1.drop hnl (by omega)
     obtain⟨A,c,hl1,hl2⟩:=HP2.out.lcell
     obtain⟨g,cap,hv,_,hgl⟩:=hl2.form (by simp)
     obtain⟨rfl,rfl⟩:A=some ⟨g,0,none⟩∧c=cap:=by injection hv with h1 _ h2;exact⟨h1,h2⟩
     obtain⟨N,hN⟩:∃ N,N=ps.length+1:=⟨_,rfl⟩
     have eN:(ps++[(⟨gP wd,(bl r1).take n,0⟩:Pc)]).length=N:=by rw[hN];simp
     rw[eN] at hl1
     have HP3:Hid (ut w (w2.setCell ⟨g,ps.length*3+2,none⟩ (.int .i64 wd)) (ps++[⟨gP wd,(bl r1).take n,(wd:Int)⟩]) r2):=HP2.out.setWord wd hN hl1
     have hNl:N≤1000:=by omega
     have hN1:1≤N:=by omega
     have cw:w2.cell? ⟨g,ps.length*3+2,none⟩=some (.int .i64 0):=by
      rw[hl2.cellAt (ps.length*3+2) (by simp;omega),nA IM _ ps.length 2 ⟨gP wd,(bl r1).take n,0⟩ (by simp) (by omega)];rfl
     have fw:w2.frozen? ⟨g,ps.length*3+2,none⟩=false:=hl2.frozenAt _
     have hixl:=fun W=>ra (T:=168) (E:=207) (sz:=3) (c:=c) (n:=N) (k:=ps.length) (i:=(N:Int)-1) Tryz.underlying168 rfl Tryz.sizeOf207 (by omega) (A:=some ⟨g,0,none⟩) rfl (by omega) W
     simp only[Nat.zero_add] at hixl
     have HNN2:=ae hN
     obtain⟨m,hm⟩:∃ m,m=aA cu (bl r2):=⟨_,rfl⟩
     have HMM:Hid (aA cu (bl r2)=m):=hm.symm
     have hml:m≤r2.size:=by have:=fh cu (bl r2);rw[ag] at this;omega
     have hrs2:r2.size≤64:=by have:=HZ2.out;omega
     have HSM:Hid (fM (t.size+1) qs (bl t)=fM fuel (ps++[⟨gP wd,(bl r1).take n,(wd:Int)⟩]++(if 0<m then [⟨3,(bl r2).take m,0⟩] else [])) ((bl r2).drop m)):=by
      show _=_;rw[HS.out,HC1.out,BF (m:=m) HNN.out HWD.out (by rw[←HB2.out];exact HMM.out),HB2.out]
     have HR2:=ae hr2
     clear hp2 hl2 hv hgl hN eN hm c7 hr2
     go_upto_region 25 with(fail)
     generalize hw3:w2.setCell ⟨g,ps.length*3+2,none⟩ (.int .i64 wd)=w3 at HP3 ⊢
     clear hw3 cw fw hixl hl1
     have c8:=HP3.out.rcell
     go_wp2_with fail
     refine(oh r2 m _ (by omega) HMM).mono ?_;rintro e w' ⟨rfl,rfl⟩
     by_cases m0:0<m
     ·have m0':decide (0<(m:Int))=true:=dT (by omega)
      have E3:Hid ((if 0<m then [(⟨3,(bl r2).take m,0⟩:Pc)] else [])=[⟨3,(bl r2).take m,0⟩]):=if_pos m0
      go_wp2_with fail
      refine(gO w 3 m _ r2 _ hml hrs2 (by simp;omega) HP3.out).mono ?_;rintro e w4 ⟨rfl,hp4⟩
      have HP4:=ae hp4
      have HA4:Hid (uu s (ps++[⟨gP wd,(bl r1).take n,(wd:Int)⟩]++[⟨3,(bl r2).take m,0⟩]) (r2.extract m r2.size)):=HA2.out.drop hml (by simp;omega)
      have HZ4:=ae (eO r2 m)
      have HSN:Hid (fM (t.size+1) qs (bl t)=fM (fuel-1+1) (ps++[⟨gP wd,(bl r1).take n,(wd:Int)⟩]++[⟨3,(bl r2).take m,0⟩]) (bl (r2.extract m r2.size))):=by
       show _=_;rw[HSM.out,E3.out,cv,show fuel-1+1=fuel by omega]
      clear hp4 c8
      go_wp2_with fail
      go_roundw
      case rel=>exact⟨fuel-1,_,_,rfl,by have h1:=HZ4.out;have h2:=HZ2.out;have h3:=HZ1.out;omega,HSN,HP4,HA4⟩
      case measure=>
       rw[HP4.out.restSz,HP.out.restSz]
       have h1:=HZ4.out;have h2:=HZ2.out;have h3:=HZ1.out;omega
     ·have m0':decide (0<(m:Int))=false:=dF (by omega)
      have mn:decide (0<m)=false:=dF (by omega)
      have HSN:Hid (fM (t.size+1) qs (bl t)=fM (fuel-1+1) (ps++[⟨gP wd,(bl r1).take n,(wd:Int)⟩]) (bl r2)):=by
       show _=_;rw[HSM.out,if_neg m0,List.append_nil,show m=0 by omega,List.drop_zero,show fuel-1+1=fuel by omega]
      clear c8
      go_wp2_with fail
      go_roundw
      case rel=>exact⟨fuel-1,_,_,rfl,by have h2:=HZ2.out;have h3:=HZ1.out;omega,HSN,HP3,HA2⟩
      case measure=>
       rw[HP3.out.restSz,HP.out.restSz]
       have h2:=HZ2.out;have h3:=HZ1.out;omega
 case rest=>
 clear HP2 HA2 HP HA
 obtain⟨ps2,r2,rfl,HS,HP,HA⟩:=hcut
 have E0:Hid (sn (bl s)=qr (bl s) ps2 (bl r2)):=by show _=_;unfold sn;rw[ag,HN.out];simp only[HL.out,ag];rw[HS.out]
 clear HN HS HL
 have c6:=HP.out.rcell
 have hrs:r2.size≤s.size:=by have:=HA.out.le;omega
 have hpl:ps2.length≤64:=by have:=HA.out.le;omega
 have i1:(s.size:Int)-(r2.size:Int)≤(s.size:Int):=by omega
 go_upto_region 29 with(fail)
 cases hpf:Lib.hasPrefix (bl r2) [45,114]
 ·have HPF:Hid (Lib.hasPrefix (bl r2) (bl ⟨#[45,114]⟩)=false):=hpf
  have HE:=ae (Lt (bl s) ps2 r2 hpf)
  clear hpf
  go_wp2_with fail
  refine(od _ _ _ HPF).mono ?_;rintro e w' ⟨rfl,rfl⟩
  have HQL:Hid (ps2.length≤200):=by show _≤_;omega
  by_cases h0:r2.size=0
  ·have he:r2.toList=[]:=by rw[ah,bG r2 h0]
   have he2:r2.toList.isEmpty=true:=by rw[he];rfl
   have HEB:Hid (decide (r2.size=0)=true):=dT h0
   clear h0
   go_upto_region 33 with(fail)
   obtain⟨i0,hi0,hz0,hz1,hz2⟩:=info_parts iR
   obtain⟨A,c,hl1,hl2⟩:=HP.out.lcell
   have HO:=ae hl2
   have fl:=HP.out.lfree
   have cr:=HP.out.rcell
   have hsz:=HP.out.sz
   have hq1:(ps2).length≤200:=HQL.out
   generalize hps':(ps2).length=NN at *
   clear hl2
   have NL:Hid (some w.heap.size≠(Value.slice A NN c).ownBlock):=by intro he;have:=(HO.out.lt _ he.symm).1;omega
   have NR:Hid (some (w.heap.size+1)≠(Value.slice A NN c).ownBlock):=by intro he;have:=(HO.out.lt _ he.symm).1;omega
   have hl0:w.heap.size<wc.heap.size:=by omega
   have hl1':w.heap.size+1<wc.heap.size:=by omega
   have hn3:¬ w.heap.size=wc.heap.size:=by omega
   have hn4:¬ w.heap.size+1=wc.heap.size:=by omega
   have CL:Hid ((wc.alloc (.cells #[.int .i64 1,.string ⟨#[]⟩,.int .i64 0] 207)).drew.cell? ⟨w.heap.size,0,none⟩=some (.slice A NN c)):=(World.cell?_alloc_lt wc _ ⟨w.heap.size,0,none⟩ hl0).trans hl1
   have FL:Hid ((wc.alloc (.cells #[.int .i64 1,.string ⟨#[]⟩,.int .i64 0] 207)).drew.frozen? ⟨w.heap.size,0,none⟩=false):=((bR.alloc lr _).frozen (p:=⟨w.heap.size,0,none⟩) hl0).trans fl
   have CR:Hid ((wc.alloc (.cells #[.int .i64 1,.string ⟨#[]⟩,.int .i64 0] 207)).drew.cell? ⟨w.heap.size+1,0,none⟩=some (.string r2)):=(World.cell?_alloc_lt wc _ ⟨w.heap.size+1,0,none⟩ hl1').trans cr
   go_region_law
    ((refine cn _ (by rfl) _ _ _ (by rfl) (w.heap.size+2) 207 i0 _ 3 32 Tryz.underlying168 hi0 hz0 hz1 hz2 rfl (by omega) (.slice A NN c) NN _ (by rfl) ((HO.out.alloc _).drew)
       (wc.heap.size+1) (some ⟨wc.heap.size,0,none⟩) 1 1 [.int .i64 1,.string ⟨#[]⟩,.int .i64 0] (by rfl) (iS wc _ _ _ _) (by simp[Value.oneCell']) (by unfold maxLen;omega) (by omega) (by simp;omega) ?_
      intro v1 w2 o2 g2 a2
      obtain⟨A1,c1,rfl⟩:=aP o2
      have cl2:w2.cell? ⟨w.heap.size,0,none⟩=some (.slice A NN c):=g2.cell CL.out NL.out
      have fl2:w2.frozen? ⟨w.heap.size,0,none⟩=false:=(World.frozen?_of_block (a:=⟨w.heap.size,0,none⟩) (g2.block w.heap.size (by simp;omega) NL.out)).trans FL.out
      have cr2:w2.cell? ⟨w.heap.size+1,0,none⟩=some (.string r2):=g2.cell CR.out NR.out))
   all_goals
    go_wp2_with fail
    refine bodyPost_ret (v:=.tuple #[.slice A1 (NN+1) c1,.string (s.extract 0 (s.size-r2.size)),.string ⟨#[]⟩,.bool true]) (by simp[results,Tryz.results110,go_sem,cl2]) rfl ?_
    exact kk E0.out HE.out HEB.out hps' HP.out.bel hsz HO.out g2 o2
  ·have he2:r2.toList.isEmpty=false:=by rw[ah,aT];exact dF h0
   have he:¬ r2.toList=[]:=by intro h;rw[h] at he2;simp at he2
   have HEB:Hid (decide (r2.size=0)=false):=dF h0
   clear h0
   go_upto_region 33 with(fail)
   obtain⟨i0,hi0,hz0,hz1,hz2⟩:=info_parts iR
   obtain⟨A,c,hl1,hl2⟩:=HP.out.lcell
   have HO:=ae hl2
   have fl:=HP.out.lfree
   have cr:=HP.out.rcell
   have hsz:=HP.out.sz
   have hq1:(ps2).length≤200:=HQL.out
   generalize hps':(ps2).length=NN at *
   clear hl2
   have NL:Hid (some w.heap.size≠(Value.slice A NN c).ownBlock):=by intro he;have:=(HO.out.lt _ he.symm).1;omega
   have NR:Hid (some (w.heap.size+1)≠(Value.slice A NN c).ownBlock):=by intro he;have:=(HO.out.lt _ he.symm).1;omega
   have hl0:w.heap.size<wc.heap.size:=by omega
   have hl1':w.heap.size+1<wc.heap.size:=by omega
   have hn3:¬ w.heap.size=wc.heap.size:=by omega
   have hn4:¬ w.heap.size+1=wc.heap.size:=by omega
   have CL:Hid ((wc.alloc (.cells #[.int .i64 1,.string ⟨#[]⟩,.int .i64 0] 207)).drew.cell? ⟨w.heap.size,0,none⟩=some (.slice A NN c)):=(World.cell?_alloc_lt wc _ ⟨w.heap.size,0,none⟩ hl0).trans hl1
   have FL:Hid ((wc.alloc (.cells #[.int .i64 1,.string ⟨#[]⟩,.int .i64 0] 207)).drew.frozen? ⟨w.heap.size,0,none⟩=false):=((bR.alloc lr _).frozen (p:=⟨w.heap.size,0,none⟩) hl0).trans fl
   have CR:Hid ((wc.alloc (.cells #[.int .i64 1,.string ⟨#[]⟩,.int .i64 0] 207)).drew.cell? ⟨w.heap.size+1,0,none⟩=some (.string r2)):=(World.cell?_alloc_lt wc _ ⟨w.heap.size+1,0,none⟩ hl1').trans cr
   go_region_law
    ((refine cn _ (by rfl) _ _ _ (by rfl) (w.heap.size+2) 207 i0 _ 3 32 Tryz.underlying168 hi0 hz0 hz1 hz2 rfl (by omega) (.slice A NN c) NN _ (by rfl) ((HO.out.alloc _).drew)
       (wc.heap.size+1) (some ⟨wc.heap.size,0,none⟩) 1 1 [.int .i64 1,.string ⟨#[]⟩,.int .i64 0] (by rfl) (iS wc _ _ _ _) (by simp[Value.oneCell']) (by unfold maxLen;omega) (by omega) (by simp;omega) ?_
      intro v1 w2 o2 g2 a2
      obtain⟨A1,c1,rfl⟩:=aP o2
      have cl2:w2.cell? ⟨w.heap.size,0,none⟩=some (.slice A NN c):=g2.cell CL.out NL.out
      have fl2:w2.frozen? ⟨w.heap.size,0,none⟩=false:=(World.frozen?_of_block (a:=⟨w.heap.size,0,none⟩) (g2.block w.heap.size (by simp;omega) NL.out)).trans FL.out
      have cr2:w2.cell? ⟨w.heap.size+1,0,none⟩=some (.string r2):=g2.cell CR.out NR.out))
   all_goals
    go_wp2_with fail
    refine bodyPost_ret (v:=.tuple #[.slice A1 (NN+1) c1,.string (s.extract 0 (s.size-r2.size)),.string ⟨#[]⟩,.bool false]) (by simp[results,Tryz.results110,go_sem,cl2]) rfl ?_
    exact kk E0.out HE.out HEB.out hps' HP.out.bel hsz HO.out g2 o2
 ·have HPF:Hid (Lib.hasPrefix (bl r2) (bl ⟨#[45,114]⟩)=true):=hpf
  obtain⟨tl,htl⟩:∃ tl,tl=r2.extract 2 r2.size:=⟨_,rfl⟩
  have HTL:Hid (r2.extract (ByteArray.size ⟨#[45,114]⟩) r2.size=tl):=htl.symm
  have HC:Hid (bl r2=45::114::bl tl):=by show _=_;rw[htl,cv];exact Lu hpf
  have htz:tl.size≤64:=by rw[htl,eO];omega
  have h20:¬ r2.size=0:=by intro h;have:=HC.out;rw[bG r2 h] at this;cases this
  have fr:=HP.out.rfree
  have HAT:Hid (uu s (ps2++[⟨2,(bl tl).take tl.size,0⟩]) tl):=by
   show uu _ _ _
   have h2:2≤r2.size:=by have:=congrArg List.length HC.out;rw[ag] at this;simp at this;omega
   rw[htl];exact HA.out.drop h2 (by simp)
  clear hpf htl
  go_wp2_with fail
  refine(mz _ _ _ HPF).mono ?_;rintro e w' ⟨rfl,rfl⟩
  rw[HTL.out]
  cases hnb:kf (bl tl)
  ·have HNB:=ae hnb
   have HE:=ae (IS (bl s) ps2 r2 tl ⟨#[]⟩ HC.out hnb ((bl s).length-r2.size))
   have he2:r2.toList.isEmpty=false:=by rw[ah,aT];exact dF h20
   have he:¬ r2.toList=[]:=by intro h;rw[h] at he2;simp at he2
   have HEB:Hid (decide (r2.size=0)=false):=dF h20
   have HQL:Hid (ps2.length≤200):=by show _≤_;omega
   clear hnb h20
   go_wp2_with fail
   refine(aK tl false _ (by omega) HNB).mono ?_;rintro e w' ⟨rfl,rfl⟩
   clear fr
   go_upto_region 33 with(fail)
   obtain⟨i0,hi0,hz0,hz1,hz2⟩:=info_parts iR
   obtain⟨A,c,hl1,hl2⟩:=HP.out.lcell
   have HO:=ae hl2
   have fl:=HP.out.lfree
   have cr:=HP.out.rcell
   have hsz:=HP.out.sz
   have hq1:(ps2).length≤200:=HQL.out
   generalize hps':(ps2).length=NN at *
   clear hl2
   have NL:Hid (some w.heap.size≠(Value.slice A NN c).ownBlock):=by intro he;have:=(HO.out.lt _ he.symm).1;omega
   have NR:Hid (some (w.heap.size+1)≠(Value.slice A NN c).ownBlock):=by intro he;have:=(HO.out.lt _ he.symm).1;omega
   have hl0:w.heap.size<wc.heap.size:=by omega
   have hl1':w.heap.size+1<wc.heap.size:=by omega
   have hn3:¬ w.heap.size=wc.heap.size:=by omega
   have hn4:¬ w.heap.size+1=wc.heap.size:=by omega
   have CL:Hid ((wc.alloc (.cells #[.int .i64 1,.string ⟨#[]⟩,.int .i64 0] 207)).drew.cell? ⟨w.heap.size,0,none⟩=some (.slice A NN c)):=(World.cell?_alloc_lt wc _ ⟨w.heap.size,0,none⟩ hl0).trans hl1
   have FL:Hid ((wc.alloc (.cells #[.int .i64 1,.string ⟨#[]⟩,.int .i64 0] 207)).drew.frozen? ⟨w.heap.size,0,none⟩=false):=((bR.alloc lr _).frozen (p:=⟨w.heap.size,0,none⟩) hl0).trans fl
   have CR:Hid ((wc.alloc (.cells #[.int .i64 1,.string ⟨#[]⟩,.int .i64 0] 207)).drew.cell? ⟨w.heap.size+1,0,none⟩=some (.string r2)):=(World.cell?_alloc_lt wc _ ⟨w.heap.size+1,0,none⟩ hl1').trans cr
   go_region_law
    ((refine cn _ (by rfl) _ _ _ (by rfl) (w.heap.size+2) 207 i0 _ 3 32 Tryz.underlying168 hi0 hz0 hz1 hz2 rfl (by omega) (.slice A NN c) NN _ (by rfl) ((HO.out.alloc _).drew)
       (wc.heap.size+1) (some ⟨wc.heap.size,0,none⟩) 1 1 [.int .i64 1,.string ⟨#[]⟩,.int .i64 0] (by rfl) (iS wc _ _ _ _) (by simp[Value.oneCell']) (by unfold maxLen;omega) (by omega) (by simp;omega) ?_
      intro v1 w2 o2 g2 a2
      obtain⟨A1,c1,rfl⟩:=aP o2
      have cl2:w2.cell? ⟨w.heap.size,0,none⟩=some (.slice A NN c):=g2.cell CL.out NL.out
      have fl2:w2.frozen? ⟨w.heap.size,0,none⟩=false:=(World.frozen?_of_block (a:=⟨w.heap.size,0,none⟩) (g2.block w.heap.size (by simp;omega) NL.out)).trans FL.out
      have cr2:w2.cell? ⟨w.heap.size+1,0,none⟩=some (.string r2):=g2.cell CR.out NR.out))
   all_goals
    go_wp2_with fail
    refine bodyPost_ret (v:=.tuple #[.slice A1 (NN+1) c1,.string (s.extract 0 (s.size-r2.size)),.string ⟨#[]⟩,.bool false]) (by simp[results,Tryz.results110,go_sem,cl2]) rfl ?_
    exact kk E0.out HE.out HEB.out hps' HP.out.bel hsz HO.out g2 o2
  ·have HNB:=ae hnb
   clear hnb h20
   go_wp2_with fail
   refine(aK tl true _ (by omega) HNB).mono ?_;rintro e w' ⟨rfl,rfl⟩
   have HP4:Hid (ut w (wc.setCell ⟨w.heap.size+1,0,none⟩ (.string tl)) ps2 tl):=HP.out.setRest tl
   go_wp2_with fail
   refine(gO w 2 tl.size ps2 tl _ lr htz (by omega) HP4.out).mono ?_;rintro e w5 ⟨rfl,hp5⟩
   obtain⟨r5,hr5⟩:∃ r5,r5=tl.extract tl.size tl.size:=⟨_,rfl⟩
   rw[←hr5] at hp5
   have h50:r5.size=0:=by rw[hr5,eO];omega
   obtain⟨ps5,hps5⟩:∃ ps5,ps5=ps2++[(⟨2,(bl tl).take tl.size,0⟩:Pc)]:=⟨_,rfl⟩
   rw[←hps5] at hp5
   have HE:Hid (qr (bl s) ps2 (bl r2)=xf (bl s) ps5 ((bl s).length-r2.size) r5 tl):=by
    show _=_;rw[hps5,wF];exact IR (bl s) ps2 r2 tl HC.out HNB.out r5 h50
   have HQL:Hid (ps5.length≤200):=by show _≤_;rw[hps5];simp;omega
   have HP5:=ae hp5
   have he:r5.toList=[]:=by rw[ah,bG r5 h50]
   have he2:r5.toList.isEmpty=true:=by rw[he];rfl
   have HEB:Hid (decide (r5.size=0)=true):=dT h50
   clear hp5 hr5 h50 hps5 fr c6
   go_upto_region 33 with(fail)
   obtain⟨i0,hi0,hz0,hz1,hz2⟩:=info_parts iR
   obtain⟨A,c,hl1,hl2⟩:=HP5.out.lcell
   have HO:=ae hl2
   have fl:=HP5.out.lfree
   have cr:=HP5.out.rcell
   have hsz:=HP5.out.sz
   have hq1:(ps5).length≤200:=HQL.out
   generalize hps':(ps5).length=NN at *
   clear hl2
   have NL:Hid (some w.heap.size≠(Value.slice A NN c).ownBlock):=by intro he;have:=(HO.out.lt _ he.symm).1;omega
   have NR:Hid (some (w.heap.size+1)≠(Value.slice A NN c).ownBlock):=by intro he;have:=(HO.out.lt _ he.symm).1;omega
   have hl0:w.heap.size<w5.heap.size:=by omega
   have hl1':w.heap.size+1<w5.heap.size:=by omega
   have hn3:¬ w.heap.size=w5.heap.size:=by omega
   have hn4:¬ w.heap.size+1=w5.heap.size:=by omega
   have CL:Hid ((w5.alloc (.cells #[.int .i64 1,.string ⟨#[]⟩,.int .i64 0] 207)).drew.cell? ⟨w.heap.size,0,none⟩=some (.slice A NN c)):=(World.cell?_alloc_lt w5 _ ⟨w.heap.size,0,none⟩ hl0).trans hl1
   have FL:Hid ((w5.alloc (.cells #[.int .i64 1,.string ⟨#[]⟩,.int .i64 0] 207)).drew.frozen? ⟨w.heap.size,0,none⟩=false):=((bR.alloc lr _).frozen (p:=⟨w.heap.size,0,none⟩) hl0).trans fl
   have CR:Hid ((w5.alloc (.cells #[.int .i64 1,.string ⟨#[]⟩,.int .i64 0] 207)).drew.cell? ⟨w.heap.size+1,0,none⟩=some (.string r5)):=(World.cell?_alloc_lt w5 _ ⟨w.heap.size+1,0,none⟩ hl1').trans cr
   go_region_law
    ((refine cn _ (by rfl) _ _ _ (by rfl) (w.heap.size+2) 207 i0 _ 3 32 Tryz.underlying168 hi0 hz0 hz1 hz2 rfl (by omega) (.slice A NN c) NN _ (by rfl) ((HO.out.alloc _).drew)
       (w5.heap.size+1) (some ⟨w5.heap.size,0,none⟩) 1 1 [.int .i64 1,.string ⟨#[]⟩,.int .i64 0] (by rfl) (iS w5 _ _ _ _) (by simp[Value.oneCell']) (by unfold maxLen;omega) (by omega) (by simp;omega) ?_
      intro v1 w2 o2 g2 a2
      obtain⟨A1,c1,rfl⟩:=aP o2
      have cl2:w2.cell? ⟨w.heap.size,0,none⟩=some (.slice A NN c):=g2.cell CL.out NL.out
      have fl2:w2.frozen? ⟨w.heap.size,0,none⟩=false:=(World.frozen?_of_block (a:=⟨w.heap.size,0,none⟩) (g2.block w.heap.size (by simp;omega) NL.out)).trans FL.out
      have cr2:w2.cell? ⟨w.heap.size+1,0,none⟩=some (.string r5):=g2.cell CR.out NR.out))
   all_goals
    go_wp2_with fail
    refine bodyPost_ret (v:=.tuple #[.slice A1 (NN+1) c1,.string (s.extract 0 (s.size-r2.size)),.string tl,.bool true]) (by simp[results,Tryz.results110,go_sem,cl2]) rfl ?_
    exact kk E0.out HE.out HEB.out hps' HP5.out.bel hsz HO.out g2 o2
end
end Go.Proofs.YtaohgmcbpafdeaaGreatDoor
