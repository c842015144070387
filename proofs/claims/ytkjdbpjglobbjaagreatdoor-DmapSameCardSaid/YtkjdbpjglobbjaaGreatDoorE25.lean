/- A part of the proof of a law on dependencies in three formats. No condition. -/
import Derived.Test.YtkjdbpjglobbjaaGreatDoorE19
import Derived.Test.YtkjdbpjglobbjaaGreatDoorE21
set_option maxRecDepth 100000
set_option maxHeartbeats 20000000
set_option linter.unusedVariables false
set_option linter.unusedSimpArgs false
namespace Go.Proofs.YtkjdbpjglobbjaaGreatDoor
theorem Dg {p:UInt8→Bool}{w r:LU}(hw:w≠[])(hall:w.all p=true)(hr:∀ x,r.head?=some x→p x=false):mW p (w++r)=some (w,r):=by
 have h:=lX hall hr
 have hl:0<w.length:=List.length_pos_iff.2 hw
 unfold mW
 rw[h,if_neg (by omega),List.take_left,List.drop_left]
theorem kJ (x:UInt8)(h:(gU x || [43,46,45].contains x)=true):Fj x=false∧zB x=false∧bf x=false∧x≠33∧x≠32∧x≠40∧x≠41:=by
 have:=dV (fun x=>!(gU x || [43,46,45].contains x)||(!Fj x && !zB x && !bf x && !(x==33) && !(x==32) && !(x==40) && !(x==41))) (by kernel_rfl) x
 simp only[h,Bool.not_true,Bool.false_or,Bool.and_eq_true,Bool.not_eq_true',bF,ne_eq] at this
 exact⟨this.1.1.1.1.1.1,this.1.1.1.1.1.2,this.1.1.1.1.2,this.1.1.1.2,this.1.1.2,this.1.2,this.2⟩
theorem AX (x:UInt8)(h:gU x=true):Fj x=false∧zB x=false∧bf x=false∧x≠33∧x≠32∧x≠40∧x≠41:=kJ x (by rw[h];rfl)
def Kd (r:LU):Prop:=r=[]∨(∃ q,r=44::q)∨∃ q,r=32::124::q
theorem Mc {r:LU}(h:Kd r):∀ x,r.head?=some x→Fj x=true∧x≠58:=by
 intro x hx
 rcases h with rfl | ⟨q,rfl⟩ | ⟨q,rfl⟩
 ·simp at hx
 ·simp only[List.head?_cons,Option.some.injEq] at hx;subst hx;decide
 ·simp only[List.head?_cons,Option.some.injEq] at hx;subst hx;decide
theorem Md {r:LU}(h:Kd r):aE 40 (aJ r)=false∧aE 91 (aJ r)=false∧aE 58 r=false:=by
 rcases h with rfl | ⟨q,rfl⟩ | ⟨q,rfl⟩
 ·exact⟨rfl,rfl,rfl⟩
 ·rw[dX (by decide)];exact⟨rfl,rfl,rfl⟩
 ·rw[gp,dX (by decide)];exact⟨rfl,rfl,rfl⟩
theorem TC {op:Nat}(h0:op≠0)(h5:op≤5)(r:LU):uk (Fk op++32::r)=(op,32::r):=by
 rcases(by omega:op=1∨op=2∨op=3∨op=4∨op=5) with rfl | rfl | rfl | rfl | rfl<;>simp[Fk,uk,aE]
theorem RI {op:Nat}(h0:op≠0)(h5:op≤5)(r:LU):aJ (Fk op++r)=Fk op++r:=by
 rcases(by omega:op=1∨op=2∨op=3∨op=4∨op=5) with rfl | rfl | rfl | rfl | rfl<;>exact dX (by decide)
theorem Dh {p:UInt8→Bool}{l:LU}(h:∀ x∈l,p x=false):l.all (fun x=>!p x)=true:=by
 rw[List.all_eq_true];intro x hx;rw[h x hx];rfl
theorem wS {t:cL}(h:t.bare){R:LU}(hR:Kd R):gK (t.text++R)=some (t,aJ R):=by
 obtain⟨nm,q,op,v,ar⟩:=t
 obtain⟨h1,h2,h3,h4,h5,h6⟩:=h
 simp only at h1 h2 h3 h4 h5 h6
 subst h2 h3
 obtain⟨a,r,ea,_⟩:=jm h1
 have hne:nm≠[]:=by rw[ea];simp
 have hall:nm.all px=true:=Dh (p:=Fj) fun x hx=>(kJ x (kn h1 hx)).1
 obtain⟨s40,s91,s58⟩:=Md hR
 by_cases h0:op=0
 ·obtain rfl:=h5 h0
  subst h0
  have e:(cL.mk nm [] 0 [] []).text++R=nm++R:=by simp[cL.text]
  have ht:=Dg hne hall (r:=R) (fun x hx=>by show(!Fj x)=false;rw[(Mc hR x hx).1];rfl)
  rw[e]
  unfold gK
  rw[ht]
  simp only
  have hq:jD R=some ([],R):=by unfold jD;rw[s58];rfl
  have hr:jd (aJ R)=some (0,[],aJ R):=by unfold jd;rw[s40];rfl
  have ha:gP (aJ R)=some ([],aJ R):=by unfold gP;rw[s91];rfl
  simp only[hq,hr,ha]
 ·obtain⟨hv,hvn,hve⟩:=h6 h0
  have e:(cL.mk nm [] op v []).text++R=nm++(32::40::(Fk op++32::(v++41::R))):=by simp[cL.text,h0]
  have ht:=Dg hne hall (r:=32::40::(Fk op++32::(v++41::R))) (fun x hx=>by simp only[List.head?_cons,Option.some.injEq] at hx;subst hx;rfl)
  have hvt:mW nB (v++41::R)=some (v,41::R):=Dg hvn (Dh (p:=Fi) hve) (fun x hx=>by simp only[List.head?_cons,Option.some.injEq] at hx;subst hx;rfl)
  have hvs:aJ (32::(v++41::R))=v++41::R:=by
   rw[gp]
   cases v with
   | nil=>exact absurd rfl hvn
   | cons b w=>
    have:=hve b (by simp)
    exact dX (by unfold Fi at this;simp only[Bool.or_eq_false_iff] at this;exact this.1.1.1.1.1.1)
  rw[e]
  unfold gK
  rw[ht]
  simp only
  have hq:jD (32::40::(Fk op++32::(v++41::R)))=some ([],32::40::(Fk op++32::(v++41::R))):=by unfold jD;rfl
  have hs:aJ (32::40::(Fk op++32::(v++41::R)))=40::(Fk op++32::(v++41::R)):=by rw[gp,dX (by decide)]
  have hr:jd (40::(Fk op++32::(v++41::R)))=some (op,v,aJ R):=by
   unfold jd
   simp only[aE,List.drop_succ_cons,List.drop_zero]
   rw[if_pos (by rfl)]
   unfold wv
   rw[RI h0 h4,TC h0 h4]
   unfold cW
   rw[if_neg h0,hvs,hvt]
   simp only
   unfold li
   rw[dX (by decide)]
   rfl
  have ha:gP (aJ R)=some ([],aJ R):=by unfold gP;rw[s91];rfl
  simp only[hq,hs,hr,ha]
theorem iS (x y:LU)(r:List (LU))(sep:LU):Lib.join (x::y::r) sep=x++sep++Lib.join (y::r) sep:=by
 simp[Lib.join,List.intercalate]
theorem sZ {t:cL}(h:t.bare):∃ a r,t.text=a::r∧(a==32)=false:=by
 obtain⟨a,r,e,ha⟩:=jm h.name
 refine⟨a,_,by unfold cL.text;rw[e];simp only[List.cons_append];rfl,by simpa using(AX a ha).2.2.2.2.1⟩
theorem wT {t:cL}{ts:List cL}(h:t.bare)(sep:LU):∃ a r,Lib.join ((t::ts).map cL.text) sep=a::r∧(a==32)=false:=by
 obtain⟨a,r,e,ha⟩:=sZ h
 cases ts with
 | nil=>exact⟨a,r,by rw[List.map_singleton,Lib.join_one,e],ha⟩
 | cons u us=>exact⟨a,_,by rw[List.map_cons,List.map_cons,iS,e];simp only[List.cons_append];rfl,ha⟩
theorem tf:∀ (ts:List cL)(sep:LU),(∀ t∈ts,t.bare)→ts.length≤(Lib.join (ts.map cL.text) sep).length
 | [],_,_=>by simp
 | [t],sep,h=>by
  obtain⟨a,r,e,_⟩:=sZ (h t (by simp))
  rw[List.map_singleton,Lib.join_one,e];simp
 | t::u::us,sep,h=>by
  obtain⟨a,r,e,_⟩:=sZ (h t (by simp))
  have:=tf (u::us) sep (fun x hx=>h x (List.mem_cons_of_mem _ hx))
  rw[List.map_cons,List.map_cons,iS,e]
  rw[List.map_cons] at this
  simp only[List.length_append,List.length_cons] at this ⊢
  omega
def Th (r:LU):Prop:=r=[]∨∃ q,r=44::q
theorem IG {r:LU}(h:Th r):aJ r=r∧aE 124 r=false∧Kd r:=by
 rcases h with rfl | ⟨q,rfl⟩
 ·exact⟨rfl,rfl,.inl rfl⟩
 ·exact⟨dX (by decide),rfl,.inr (.inl ⟨q,rfl⟩)⟩
theorem nF:∀ (ts:List cL)(f:Nat)(R:LU),ts≠[]→ts.length≤f→(∀ t∈ts,t.bare)→Th R→eS f (Lib.join (ts.map cL.text) [32,124,32]++R)=some (ts,R)
 | [],_,_,h,_,_,_=>absurd rfl h
 | _::_,0,_,_,h,_,_=>by simp at h
 | [t],f+1,R,_,_,h,hR=>by
  obtain⟨s1,s2,s3⟩:=IG hR
  rw[List.map_singleton,Lib.join_one]
  unfold eS
  rw[wS (h t (by simp)) s3]
  simp only[s1,s2]
  rfl
 | t::u::us,f+1,R,_,hf,h,hR=>by
  have ih:=nF (u::us) f R (by simp) (by simp at hf ⊢;omega) (fun x hx=>h x (List.mem_cons_of_mem _ hx)) hR
  obtain⟨a,r,e,ha⟩:=wT (ts:=us) (h u (by simp)) [32,124,32]
  have e1:Lib.join ((t::u::us).map cL.text) [32,124,32]++R=t.text++(32::124::32::(Lib.join ((u::us).map cL.text) [32,124,32]++R)):=by
   rw[List.map_cons,List.map_cons,iS];simp
  rw[e1]
  unfold eS
  rw[wS (h t (by simp)) (.inr (.inr ⟨_,rfl⟩))]
  have e2:aJ (32::124::32::(Lib.join ((u::us).map cL.text) [32,124,32]++R))=124::32::(Lib.join ((u::us).map cL.text) [32,124,32]++R):=by rw[gp,dX (by decide)]
  have e3:aJ (32::(Lib.join ((u::us).map cL.text) [32,124,32]++R))=Lib.join ((u::us).map cL.text) [32,124,32]++R:=by rw[gp,e,List.cons_append,dX ha]
  simp only[e2]
  rw[if_pos (by rfl),List.drop_succ_cons,List.drop_zero,e3,ih];rfl
def Di (g:List cL):LU:=Lib.join (g.map cL.text) [32,124,32]
theorem gC (L:List (List cL)):eY L=Lib.join (L.map Di) [44,32]:=rfl
theorem th {g:List cL}(hn:g≠[])(h:∀ t∈g,t.bare):∃ a r,Di g=a::r∧(a==32)=false:=by
 cases g with
 | nil=>exact absurd rfl hn
 | cons t ts=>exact wT (h t (by simp)) _
theorem rF:∀ (L:List (List cL))(f:Nat),L≠[]→L.length≤f→(∀ g∈L,g≠[]∧∀ t∈g,t.bare)→fW f (eY L)=some L
 | [],_,h,_,_=>absurd rfl h
 | _::_,0,_,h,_=>by simp at h
 | [g],f+1,_,_,h=>by
  have hg:=h g (by simp)
  have hl:=tf g [32,124,32] hg.2
  have:=nF g ((Di g).length+1) [] hg.1 (by unfold Di;omega) hg.2 (.inl rfl)
  rw[List.append_nil] at this
  rw[gC,List.map_singleton,Lib.join_one]
  unfold fW
  rw[show Lib.join (g.map cL.text) [32,124,32]=Di g from rfl] at this
  rw[this];rfl
 | g::g2::L,f+1,_,hf,h=>by
  have hg:=h g (by simp)
  have ih:=rF (g2::L) f (by simp) (by simp at hf ⊢;omega) (fun x hx=>h x (List.mem_cons_of_mem _ hx))
  have e1:eY (g::g2::L)=Di g++44::32::eY (g2::L):=by
   rw[gC,gC,List.map_cons,List.map_cons,iS];simp
  have hl:=tf g [32,124,32] hg.2
  have:=nF g ((Di g++44::32::eY (g2::L)).length+1) (44::32::eY (g2::L)) hg.1 (by rw[List.length_append];unfold Di;omega) hg.2 (.inr ⟨_,rfl⟩)
  have e3:aJ (32::eY (g2::L))=eY (g2::L):=by
   have hg2:=h g2 (by simp)
   obtain⟨a,r,e,ha⟩:=th hg2.1 hg2.2
   have:∃ q,eY (g2::L)=a::q:=by
    cases L with
    | nil=>exact⟨r,by rw[gC,List.map_singleton,Lib.join_one,e]⟩
    | cons g3 M=>exact⟨_,by rw[gC,List.map_cons,List.map_cons,iS,e];simp only[List.cons_append];rfl⟩
   obtain⟨q,eq⟩:=this
   rw[gp,eq,dX ha]
  rw[e1]
  unfold fW
  rw[show Lib.join (g.map cL.text) [32,124,32]=Di g from rfl] at this
  rw[this]
  simp only[List.isEmpty_cons,Bool.false_eq_true,if_false]
  rw[if_pos (by rfl),List.drop_succ_cons,List.drop_zero,e3,ih];rfl
theorem AY:∀ (L:List (List cL)),(∀ g∈L,g≠[]∧∀ t∈g,t.bare)→L.length≤(eY L).length
 | [],_=>by simp
 | [g],h=>by
  obtain⟨a,r,e,_⟩:=th (h g (by simp)).1 (h g (by simp)).2
  rw[gC,List.map_singleton,Lib.join_one,e];simp
 | g::g2::L,h=>by
  have:=AY (g2::L) (fun x hx=>h x (List.mem_cons_of_mem _ hx))
  rw[gC] at this ⊢
  rw[List.map_cons,List.map_cons,iS]
  rw[List.map_cons] at this
  simp only[List.length_append,List.length_cons] at this ⊢
  omega
theorem Fz {L:List (List cL)}(hne:L≠[])(h:∀ g∈L,g≠[]∧∀ t∈g,t.bare)(hs:(L.map List.length).sum≤64):eT (eY L)=some L:=by
 obtain⟨g,M,rfl⟩:∃ g M,L=g::M:=by cases L with | nil=>exact absurd rfl hne | cons g M=>exact⟨g,M,rfl⟩
 have hg:=h g (by simp)
 obtain⟨a,r,e,ha⟩:=th hg.1 hg.2
 have hc:∃ q,eY (g::M)=a::q:=by
  cases M with
  | nil=>exact⟨r,by rw[gC,List.map_singleton,Lib.join_one,e]⟩
  | cons g3 M=>exact⟨_,by rw[gC,List.map_cons,List.map_cons,iS,e];simp only[List.cons_append];rfl⟩
 obtain⟨q,eq⟩:=hc
 have hk:aJ (eY (g::M))=eY (g::M):=by rw[eq,dX ha]
 have hgs:=rF (g::M) ((eY (g::M)).length+1) (by simp) (by have:=AY (g::M) h;omega) h
 have hf:lY (eY (g::M))=some (g::M):=by
  unfold lY
  rw[hk,hgs,eq];rfl
 have ha:uJ (g::M)=true:=by
  unfold uJ
  rw[dT hs,Bool.and_true,List.all_eq_true]
  intro x hx
  rw[List.all_eq_true]
  intro t ht
  have hb:=(h x hx).2 t ht
  unfold cL.right
  rw[hb.name,hb.qual,hb.archs]
  by_cases h0:t.op=0
  ·rw[dT h0];rfl
  ·rw[dT (hb.ver h0).1];simp
 unfold eT
 rw[hf];simp[ha]
def AZ (w:LU):Prop:=∀ x∈w,(x==32)=false∧(x==40)=false∧(x==41)=false
def A5 (r:LU):Prop:=r=[]∨(∃ q,r=32::q)∨∃ q,r=41::q
theorem A6:∀ (w:LU){r:LU},AZ w→A5 r→jb 0 (w++r)=w.length
 | [],r,_,hr=>by
  rcases hr with rfl | ⟨q,rfl⟩ | ⟨q,rfl⟩
  ·rfl
  ·rfl
  ·rfl
 | c::w,r,hw,hr=>by
  obtain⟨h1,h2,h3⟩:=hw c (by simp)
  have ih:=A6 w (fun x hx=>hw x (List.mem_cons_of_mem _ hx)) hr
  rw[List.cons_append]
  unfold jb
  rw[h1,h2,h3,ih];simp
theorem jn {w:LU}(hn:w≠[])(hw:AZ w){r:LU}(hr:A5 r):aY (w++r)=w∧bw (w++r)=r:=by
 have he:=A6 w hw hr
 cases w with
 | nil=>exact absurd rfl hn
 | cons c t=>
  obtain⟨h1,h2,h3⟩:=hw c (by simp)
  have hl:rA (aJ (c::t++r))=(c::t).length:=by
   rw[List.cons_append,dX h1,←he]
   show(if Ox c then 1 else jb 0 (c::(t++r)))=_
   have:Ox c=false:=by unfold Ox;rw[h2,h3];rfl
   rw[this];rfl
  have hs:aJ (c::t++r)=c::t++r:=by rw[List.cons_append,dX h1]
  unfold aY bw
  rw[hl,hs,List.take_left,List.drop_left]
  exact⟨rfl,rfl⟩
theorem nG {c:UInt8}(h:c=40∨c=41)(r:LU):aY (c::r)=[c]∧bw (c::r)=r:=by
 unfold aY bw
 rcases h with rfl | rfl<;>rw[dX (by decide)]<;>exact⟨rfl,rfl⟩
theorem ej (l:LU):aY (32::l)=aY l∧bw (32::l)=bw l:=by
 unfold aY bw;rw[gp];exact⟨rfl,rfl⟩
theorem FA (n:Nat)(l:LU):fX n (32::l)=fX n l:=by
 unfold fX;rw[(ej l).1,(ej l).2]
theorem II (f deep n:Nat)(l:LU):fK f deep n (32::l)=fK f deep n l:=by
 cases f with
 | zero=>simp[fK]
 | succ f=>unfold fK;rw[(ej l).1,(ej l).2,FA]
theorem IJ (f deep n:Nat)(acc:List gQ)(op l:LU):iF f deep n acc op (32::l)=iF f deep n acc op l:=by
 cases f with
 | zero=>simp[iF]
 | succ f=>unfold iF;rw[II]
inductive gQ.bare:gQ→Prop where
 | mk (nm:LU) (op:Nat) (v:LU) (h1:bo nm=true) (h2:op≤5) (h3:op=0→v=[]) (h4:op≠0→aV 2 (bz v)=0∧v≠[]∧AZ v):gQ.bare (.atom nm op v)
theorem Me {l:LU}(h:bo l=true):l≠[]∧AZ l:=by
 obtain⟨a,r,e,_⟩:=jm h
 refine⟨by rw[e];simp,fun x hx=>?_⟩
 obtain⟨_,_,_,_,h1,h2,h3⟩:=kJ x (kn h hx)
 exact⟨by simpa using h1,by simpa using h2,by simpa using h3⟩
theorem TD {op:Nat}(h0:op≠0)(h5:op≤5):Fn (Oz op)=op∧Oz op≠[]∧AZ (Oz op):=by
 rcases(by omega:op=1∨op=2∨op=3∨op=4∨op=5) with rfl | rfl | rfl | rfl | rfl
 all_goals
  refine⟨by decide,by decide,?_⟩
  intro x hx
  simp only[Oz,List.mem_cons,List.not_mem_nil,or_false] at hx
  first
   | (subst hx;decide)
   | (rcases hx with rfl | rfl<;>decide)
def wU (r:LU):Prop:=A5 r∧Fn (aY r)=0
theorem IK {d:gQ}(h:d.bare){n:Nat}(hn:n<64){R:LU}(hR:wU R):fX n (bP d++R)=some (d,R,n+1)∧aY (bP d++R)≠[]∧aY (bP d++R)≠[40]∧aY (bP d++R)≠[41]:=by
 obtain⟨nm,op,v,h1,h2,h3,h4⟩:=h
 obtain⟨hne,hw⟩:=Me h1
 have hl2:=(me h1).1
 have key:∀ q,A5 q→aY (nm++q)≠[]∧aY (nm++q)≠[40]∧aY (nm++q)≠[41]:=by
  intro q hq
  rw[(jn hne hw hq).1]
  refine⟨hne,?_,?_⟩<;>(intro e;rw[e] at hl2;simp at hl2)
 by_cases h0:op=0
 ·obtain rfl:=h3 h0
  subst h0
  have e:bP (.atom nm 0 [])=nm:=by simp[bP]
  rw[e]
  refine⟨?_,key R hR.1⟩
  obtain⟨k1,k2⟩:=jn hne hw hR.1
  unfold fX
  rw[if_neg (by omega),k1,k2,Dj h1,if_pos rfl]
  unfold kH
  rw[if_pos hR.2]
 ·obtain⟨hv,hvn,hvw⟩:=h4 h0
  obtain⟨o1,o2,o3⟩:=TD h0 h2
  have e:bP (.atom nm op v)++R=nm++32::(Oz op++32::(v++R)):=by simp[bP,h0]
  rw[e]
  have ht:A5 (32::(Oz op++32::(v++R))):=.inr (.inl ⟨_,rfl⟩)
  refine⟨?_,key _ ht⟩
  obtain⟨k1,k2⟩:=jn hne hw ht
  have ht2:A5 (32::(v++R)):=.inr (.inl ⟨_,rfl⟩)
  obtain⟨m1,m2⟩:=jn o2 o3 ht2
  obtain⟨v1,v2⟩:=jn hvn hvw hR.1
  unfold fX
  rw[if_neg (by omega),k1,k2,Dj h1,if_pos rfl]
  unfold kH
  rw[(ej _).1,(ej _).2,m1,m2,o1,if_neg h0]
  unfold jK
  rw[(ej _).1,(ej _).2,v1,v2,if_neg,if_pos hv]
  rintro(e1 | e1 | e1)
  ·exact hvn e1
  ·have:=(hvw 40 (by rw[e1];simp)).2.1;revert this;decide
  ·have:=(hvw 41 (by rw[e1];simp)).2.2;revert this;decide
theorem ti {d:gQ}(h:d.bare){n:Nat}(hn:n<64){R:LU}(hR:wU R)(f deep:Nat):fK (f+1) deep n (bP d++R)=some (d,R,n+1):=by
 obtain⟨h1,h2,h3,h4⟩:=IK h hn hR
 unfold fK
 rw[if_neg (by rintro(e | e);exact h2 e;exact h4 e),if_neg h3,h1]
theorem Mf:wU []:=⟨.inl rfl,rfl⟩
theorem FC:wU [41]:=⟨.inr (.inr ⟨[],rfl⟩),by rw[(nG (.inr rfl) []).1];decide⟩
theorem Dl (q:LU):aY (32::111::114::32::q)=eE∧bw (32::111::114::32::q)=32::q:=by
 have hw:AZ eE:=by
  intro x hx
  simp only[eE,List.mem_cons,List.not_mem_nil,or_false] at hx
  rcases hx with rfl | rfl<;>decide
 have:=jn (w:=eE) (by decide) hw (r:=32::q) (.inr (.inl ⟨_,rfl⟩))
 rw[(ej _).1,(ej _).2]
 exact this
theorem OR (q:LU):wU (32::111::114::32::q):=⟨.inr (.inl ⟨_,rfl⟩),by rw[(Dl q).1];decide⟩
theorem OS (i : Nat) (k : gQ) (r : List gQ) : dJ eE (i + 1) (k :: r) = 32 :: 111 :: 114 :: 32 :: (bP k ++ dJ eE (i + 2) r) := by
  have hw : OA eE (i + 1) = eE := by
    unfold OA; rw [if_neg]; rintro ⟨_, h | h⟩ <;> revert h <;> decide
  conv => lhs; unfold dJ
  rw [if_neg (by omega), hw]
  simp [eE]
theorem A7:∀ (ks:List gQ)(k:gQ)(i f deep n:Nat)(acc:List gQ),(k::ks).length≤f→(∀ d∈k::ks,d.bare)→n+(k::ks).length≤64→(acc≠[]∨ks≠[]) →
  iF (f+1) deep n acc (if acc=[] then [] else eE) (bP k++(dJ eE (i+1) ks++[41]))=some (.node eE (acc++k::ks),[],n+(k::ks).length)
 | [],k,i,0,deep,n,acc,hf,_,_,_=>by simp at hf
 | [],k,i,f+1,deep,n,acc,_,h,hn,ha=>by
  have ha:acc≠[]:=by rcases ha with h | h;exact h;exact absurd rfl h
  have e:dJ eE (i+1) []++[41]=[41]:=by simp[dJ]
  rw[e,if_neg ha]
  unfold iF
  rw[ti (h k (by simp)) (by simp at hn;omega) FC]
  simp only
  rw[(nG (.inr rfl) []).1,(nG (.inr rfl) []).2,if_pos ⟨rfl,ha⟩];rfl
 | k2::ks,k,i,0,deep,n,acc,hf,_,_,_=>by simp at hf
 | k2::ks,k,i,f+1,deep,n,acc,hf,h,hn,_=>by
  have ih:=A7 ks k2 (i+1) f deep (n+1) (acc++[k]) (by simp at hf ⊢;omega) (fun d hd=>h d (List.mem_cons_of_mem _ hd)) (by simp at hn ⊢;omega) (.inl (by simp))
  have e:dJ eE (i+1) (k2::ks)++[41]=32::111::114::32::(bP k2++(dJ eE (i+2) ks++[41])):=by rw[OS];simp
  rw[e]
  unfold iF
  rw[ti (h k (by simp)) (by simp at hn;omega) (OR _)]
  simp only
  rw[(Dl _).1,(Dl _).2,if_neg (by rintro⟨h1,_⟩;revert h1;decide)]
  have hfo:aP (if acc=[] then [] else eE) (acc.length+1) eE=true:=by
   unfold aP
   by_cases ha:acc=[]
   ·subst ha;decide
   ·have:acc.length≠0:=by intro h0;exact ha (List.eq_nil_of_length_eq_zero h0)
    rw[if_neg (by omega),if_neg ha]
    exact dT (.inl ⟨.inr rfl,rfl⟩)
  rw[if_pos hfo,IJ]
  have eo:(if acc=[] then eE else if acc=[] then [] else eE)=eE:=by split<;>simp_all
  rw[if_neg (by simp)] at ih
  rw[eo,ih]
  simp;omega
inductive gQ.flat:gQ→Prop where
 | one (d:gQ) (h:d.bare):gQ.flat d
 | some (k k2:gQ) (ks:List gQ) (h:∀ d∈k::k2::ks,d.bare) (hn:(k::k2::ks).length≤64):gQ.flat (.node eE (k::k2::ks))
theorem A8:∀ (ks:List gQ)(i:Nat),(∀ d∈ks,d.bare)→ks.length≤(dJ eE i ks).length
 | [],_,_=>by simp
 | k::r,i,h=>by
  have ih:=A8 r (i+1) (fun d hd=>h d (List.mem_cons_of_mem _ hd))
  have hk:0<(bP k).length:=by
   obtain⟨nm,op,v,h1,_,_,_⟩:=h k (by simp)
   have:=(me h1).1
   unfold bP
   split
   ·omega
   ·simp only[List.length_append];omega
  conv=>rhs;unfold dJ
  simp only[List.length_append,List.length_cons]
  omega
theorem ur {d:gQ}(h:d.flat):dD (bP d)=some d:=by
 unfold dD
 cases h with
 | one d h=>
  have:=ti h (n:=0) (by omega) Mf (2*(bP d).length+1) 0
  rw[List.append_nil] at this
  rw[this];rfl
 | some k k2 ks h hn=>
  have e:bP (.node eE (k::k2::ks))=40::(bP k++(dJ eE (0+1) (k2::ks)++[41])):=by
   simp[bP,dJ]
  have hlen:(k2::ks).length≤(dJ eE (0+1) (k2::ks)).length:=A8 (k2::ks) (0+1) (fun d hd=>h d (List.mem_cons_of_mem _ hd))
  have hg:=A7 (k2::ks) k 0 (2*(bP (.node eE (k::k2::ks))).length) 1 0 [] (by rw[e];simp only[List.length_cons,List.length_append] at hlen ⊢;omega) h (by simpa using hn) (.inr (by simp))
  rw[if_pos rfl] at hg
  have hd:fK (2*(bP (.node eE (k::k2::ks))).length+2) 0 0 (bP (.node eE (k::k2::ks)))=some (.node eE (k::k2::ks),[],0+(k::k2::ks).length):=by
   generalize 2*(bP (.node eE (k::k2::ks))).length=F at hg
   rw[e]
   unfold fK
   rw[(nG (.inl rfl) _).1,(nG (.inl rfl) _).2,if_neg (by decide),if_pos rfl,if_neg (by omega)]
   exact hg
  rw[hd];rfl
theorem TE {op:Nat}(h0:op≠0)(h5:op≤5){d:UInt8}{r:LU}(hd:aD d=true):uh (iH op++d::r)=(op,d::r):=by
 have h61:aE 61 (d::r)=false:=by
  show(d==61)=false
  have:=dV (fun d=>!aD d || !(d==61)) (by kernel_rfl) d
  simpa [hd] using this
 rcases(by omega:op=1∨op=2∨op=3∨op=4∨op=5) with rfl | rfl | rfl | rfl | rfl
 ·have e:uh (60::d::r)=if aE 61 (d::r) then (2,(d::r).drop 1) else (1,d::r):=rfl
  show uh (60::d::r)=_
  rw[e,h61];rfl
 ·rfl
 ·rfl
 ·rfl
 ·have e:uh (62::d::r)=if aE 61 (d::r) then (4,(d::r).drop 1) else (5,d::r):=rfl
  show uh (62::d::r)=_
  rw[e,h61];rfl
theorem OT {op:Nat}(h0:op≠0)(h5:op≤5)(q:LU):∀ x,(iH op++q).head?=some x→jS x=false:=by
 rcases(by omega:op=1∨op=2∨op=3∨op=4∨op=5) with rfl | rfl | rfl | rfl | rfl
 all_goals (intro x hx;simp only[iH,List.cons_append,List.head?_cons,Option.some.injEq] at hx;subst hx;decide)
theorem wV {x:dR}(h:x.bare):gJ x.text=some x:=by
 obtain⟨no,nm,op,v⟩:=x
 obtain⟨h1,h2,h3,h4⟩:=h
 simp only at h1 h2 h3 h4
 obtain⟨a,r,e,ha⟩:=jm h1
 have hb:cS (dR.mk no nm op v).text=nm++(iH op++v)∧aE 33 (dR.mk no nm op v).text=no:=by
  unfold cS dR.text
  cases no with
  | true=>simp[aE]
  | false=>
   have h33:aE 33 (nm++iH op++v)=false:=by rw[e];show(a==33)=false;simpa using(AX a ha).2.2.2.1
   simp only[Bool.false_eq_true,if_false,List.nil_append,h33];simp
 have hall:nm.all jS=true:=Dh (p:=zB) fun x hx=>(kJ x (kn h1 hx)).2.1
 unfold gJ
 rw[hb.1,hb.2]
 by_cases h0:op=0
 ·obtain rfl:=h3 h0
  subst h0
  have hr:au jS (nm++(iH 0++[]))=nm.length:=lX hall (fun x hx=>by simp[iH] at hx)
  rw[hr,List.take_left,List.drop_left,Dk h1,if_pos rfl];rfl
 ·obtain⟨hv,⟨d,t,rfl,hd⟩,_⟩:=h4 h0
  have hr:au jS (nm++(iH op++d::t))=nm.length:=lX hall (OT h0 h2 _)
  rw[hr,List.take_left,List.drop_left,Dk h1,if_pos rfl]
  unfold AA
  rw[TE h0 h2 hd,if_neg (by simp),if_pos hv]
theorem tj {x:dR}(h:x.bare):x.text.all dW=true∧∃ a r,x.text=a::r:=by
 constructor
 ·rw[List.all_eq_true]
  intro y hy
  have key:∀ y:UInt8,y≠32→dW y=true:=fun y hy=>by unfold dW;simpa [bne] using hy
  unfold dR.text at hy
  rcases List.mem_append.1 hy with hy | hy
  ·split at hy
   ·rw[List.mem_singleton.1 hy];rfl
   ·simp at hy
  ·rcases List.mem_append.1 hy with hy | hy
   ·rcases List.mem_append.1 hy with hy | hy
    ·exact key y (kJ y (kn h.name hy)).2.2.2.2.1
    ·by_cases h0:x.op=0
     ·rw[h0] at hy;simp[iH] at hy
     ·have h5:=h.op
      rcases(by omega:x.op=1∨x.op=2∨x.op=3∨x.op=4∨x.op=5) with e | e | e | e | e
      all_goals
       rw[e] at hy
       simp only[iH,List.mem_cons,List.not_mem_nil,or_false] at hy
       first
        | (subst hy;rfl)
        | (rcases hy with rfl | rfl<;>rfl)
   ·by_cases h0:x.op=0
    ·rw[h.none h0] at hy;simp at hy
    ·exact key y (by simpa using(h.ver h0).2.2 y hy)
 ·obtain⟨a,r,e,_⟩:=jm h.name
  unfold dR.text
  rw[e]
  cases x.no with
  | true=>exact⟨33,_,rfl⟩
  | false=>exact⟨a,_,rfl⟩
theorem wW:∀ (L:List dR)(f n:Nat),L.length<f→n+L.length≤64→(∀ x∈L,x.bare)→iQ f n (fz L)=some L
 | [],0,n,h,_,_=>by simp at h
 | [],f+1,n,_,_,_=>by
  have:fz []=[]:=rfl
  rw[this,sS]
 | x::L,0,n,h,_,_=>by simp at h
 | [x],f+1,n,hf,hn,h=>by
  have hx:=h x (by simp)
  obtain⟨hi,a,r,e⟩:=tj hx
  have et:fz [x]=x.text:=by unfold fz;rw[List.map_singleton,Lib.join_one]
  rw[et]
  have hr:=lX hi (r:=[]) (fun c hc=>by simp at hc)
  rw[List.append_nil] at hr
  have ha:dW a=true:=by rw[e,List.all_cons,Bool.and_eq_true] at hi;exact hi.1
  have hw:gJ (x.text.take (au dW x.text))=some x:=by rw[hr,List.take_length];exact wV hx
  rw[ql (by rw[e];exact ha) (by simp at hn;omega) hw,hr,List.drop_length]
  cases f with
  | zero=>simp at hf
  | succ f=>rw[sS];rfl
 | x::y::L,f+1,n,hf,hn,h=>by
  have hx:=h x (by simp)
  have ih:=wW (y::L) f (n+1) (by simp at hf ⊢;omega) (by simp at hn ⊢;omega) (fun z hz=>h z (List.mem_cons_of_mem _ hz))
  obtain⟨hi,a,r,e⟩:=tj hx
  have et:fz (x::y::L)=x.text++32::fz (y::L):=by unfold fz;rw[List.map_cons,List.map_cons,iS];simp
  have hr:=lX hi (r:=32::fz (y::L)) (fun c hc=>by simp only[List.head?_cons,Option.some.injEq] at hc;subst hc;rfl)
  have ha:dW a=true:=by rw[e,List.all_cons,Bool.and_eq_true] at hi;exact hi.1
  rw[et]
  have hw:gJ ((x.text++32::fz (y::L)).take (au dW (x.text++32::fz (y::L))))=some x:=by rw[hr,List.take_left];exact wV hx
  rw[ql (by rw[e];exact ha) (by simp at hn;omega) hw,hr,List.drop_left,uj,ih];rfl
theorem A9:∀ (L:List dR),(∀ x∈L,x.bare)→L.length≤(fz L).length
 | [],_=>by simp
 | [x],h=>by
  obtain⟨_,a,r,e⟩:=tj (h x (by simp))
  have et:fz [x]=x.text:=by unfold fz;rw[List.map_singleton,Lib.join_one]
  rw[et,e];simp
 | x::y::L,h=>by
  have ih:=A9 (y::L) (fun z hz=>h z (List.mem_cons_of_mem _ hz))
  have et:fz (x::y::L)=x.text++32::fz (y::L):=by unfold fz;rw[List.map_cons,List.map_cons,iS];simp
  rw[et]
  simp only[List.length_append,List.length_cons] at ih ⊢
  omega
theorem FD {L:List dR}(h:∀ x∈L,x.bare)(hn:L.length≤64):eR (fz L)=some L:=by
 unfold eR
 exact wW L _ 0 (by have:=A9 L h;omega) (by omega) h
end Go.Proofs.YtkjdbpjglobbjaaGreatDoor
