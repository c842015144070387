/- A part of the proof. -/
import Derived.Test.YtlglfpbhapmhiaaGreatDoorL31
set_option maxRecDepth 100000
set_option maxHeartbeats 20000000
set_option linter.unusedVariables false
set_option linter.unusedSimpArgs false
namespace Go.Proofs.YtlglfpbhapmhiaaGreatDoor
variable{fmt:Int}{k:Nat}
section
open Go.RowKit
structure dH where
 pk:bK
 ca:OA
 cc:Nat
 conf:List BA
 ea:OA
 ec:Nat
 ents:List ag
def dH.val (b:dH):Value:=.agg #[.string b.pk.nm,.string b.pk.ver,.string b.pk.ar,.string b.pk.sm,.slice b.pk.na b.pk.needs.length b.pk.nc,.slice b.pk.ba b.pk.bars.length b.pk.bc,.slice b.pk.ga b.pk.gives.length b.pk.gc,.slice b.pk.fa b.pk.files.length b.pk.fc,.slice b.pk.sa b.pk.scripts.length b.pk.sc,.slice b.ca b.conf.length b.cc,.slice b.ea b.ents.length b.ec]
def dH.cells (b:dH):LV:=[.string b.pk.nm,.string b.pk.ver,.string b.pk.ar,.string b.pk.sm,.slice b.pk.na b.pk.needs.length b.pk.nc,.slice b.pk.ba b.pk.bars.length b.pk.bc,.slice b.pk.ga b.pk.gives.length b.pk.gc,.slice b.pk.fa b.pk.files.length b.pk.fc,.slice b.pk.sa b.pk.scripts.length b.pk.sc,.slice b.ca b.conf.length b.cc,.slice b.ea b.ents.length b.ec]
structure dH.ok (b:dH) (w:World):Prop where
 pk:b.pk.ok w
 conf:Rd w 1 b.ca b.conf.length (ay b.conf)
 ents:cV w b.ea b.ents
theorem dH.ok.below {b:dH}{w w':World}(h:b.ok w)(hb:Below w.heap.size w w'):b.ok w':=⟨h.pk.below hb,h.conf.below hb,h.ents.below hb⟩
structure dH.small (b:dH):Prop where
 pk:b.pk.small
 few:b.pk.few
 conf:b.conf.length<=100000
 conf_:∀ s∈b.conf,s.size<=1000000
 ents:b.ents.length<=100000
 ents_:∀ x∈b.ents,x.small
def cP (fmt:Int)(x:ag):Bool:=eT fmt x.owner&&(eT fmt x.group&&(decide (x.uid=0)&&(decide (x.gid=0)&&(decide (x.mtime<=4294967295)&&(!decide (x.kind=3)||(decide (x.mode=511)&&fY (bl x.link)))))))
def li (fmt:Int)(x:ag):Int:=if fY (bl x.path)=false then 10 else if cP fmt x=false then 1 else 0
def fB (fmt:Int):List ag->BA×Int
 | []=>(⟨#[]⟩,0)
 | x::r=>if li fmt x=0 then fB fmt r else (x.path,li fmt x)
theorem Gf {l:List ag}{x:ag}(h:l[k]?=some x)(h0:fB fmt l=fB fmt (l.drop k))(he:li fmt x=0):fB fmt l=fB fmt (l.drop (k+1)):=by
 obtain⟨hk,hf⟩:=gS h;rw[h0,List.drop_eq_getElem_cons hk,hf,fB,if_pos he]
theorem yK {l:List ag}{x:ag}(h:l[k]?=some x)(h0:fB fmt l=fB fmt (l.drop k))(he:li fmt x≠0):fB fmt l=(x.path,li fmt x):=by
 obtain⟨hk,hf⟩:=gS h;rw[h0,List.drop_eq_getElem_cons hk,hf,fB,if_neg he]
theorem Kf {l:List ag}(hk:l.length<=k)(h0:fB fmt l=fB fmt (l.drop k)):fB fmt l=(⟨#[]⟩,0):=by
 rw[h0,List.drop_of_length_le hk];rfl
def lj:List ag->BA->Option Int
 | [],_=>none
 | x::r,s=>match lj r s with
  | some k=>some k
  | none=>if x.path=s then some x.kind else none
theorem rZ:∀ (l:List ag)(x:ag)(s:BA),lj (l++[x]) s=if s=x.path then some x.kind else lj l s
 | [],x,s=>by
  by_cases h:s=x.path
  ·simp[lj,h]
  ·simp[lj,h];exact fun e=>h e.symm
 | y::r,x,s=>by
  rw[List.cons_append,lj,rZ r x s];by_cases h:s=x.path
  ·rw[if_pos h,if_pos h]
  ·rw[if_neg h,if_neg h,lj]
def Qp (l:List ag)(s:BA):Option Value:=(lj l s).map fun k=>.int .i64 k
theorem Ne (l:List ag)(x:ag):Qp (l++[x])=fun s=>if s=x.path then some (.int .i64 x.kind) else Qp l s:=by
 funext s
 unfold Qp;rw[rZ];by_cases h:s=x.path
 ·rw[if_pos h,if_pos h];rfl
 ·rw[if_neg h,if_neg h]
def Sr (prev:Option BA)(s:BA):Bool:=match prev with
 | none=>true
 | some t=>decide (bl t<bl s)
def vP (l:List ag)(prev:Option BA)(s:BA):Bool:=Sr prev s&&(decide ((lj l s).getD 0=1)||decide ((lj l s).getD 0=4))
def kA (l:List ag):Option BA->List BA->Bool
 | _,[]=>true
 | p,s::r=>vP l p s&&kA l (some s) r
def tD (fmt:Int)(conf:List BA)(l:List ag):Bool:=if fmt=3 then decide (conf.length=0) else kA l none conf
def mA (fmt:Int)(b:dH):BA×Int:=
 if 0<b.pk.files.length then (⟨#[102,105,108,101,115]⟩,1) else if (il fmt b.pk).2≠0 then il fmt b.pk
 else if 512<b.ents.length then (⟨#[101,110,116,114,105,101,115]⟩,4)
 else if (nF b.ents).2≠0 then (((b.ents[(nF b.ents).1]?).map (·.path)).getD ⟨#[]⟩,(nF b.ents).2)
 else if (fB fmt b.ents).2≠0 then fB fmt b.ents
 else if tD fmt b.conf b.ents=false then (⟨#[99,111,110,102]⟩,1) else (⟨#[]⟩,0)
def DI (l:List BA)(s:BA):Nat->Nat->Nat->Nat
 | 0,i,_=>i
 | f+1,i,j=>if i<j then (if bl (l.getD ((i+j) / 2) ⟨#[]⟩)<bl s then DI l s f ((i+j) / 2+1) j else DI l s f i ((i+j) / 2)) else i
def yL (l:List BA)(s:BA):Bool:=decide (l[DI l s l.length 0 l.length]?=some s)
def DJ (fmt:Int):Nat:=if fmt=1 then 1 else if fmt=2 then 3 else 2
def At (fmt:Int)(bs:LU):BA:=⟨(lh (dY (DJ fmt) bs)).toArray⟩
def iB:List av->BA->Option av
 | [],_=>none
 | x::r,s=>match iB r s with
  | some k=>some k
  | none=>if x.path=s then some x else none
theorem vQ:∀ (l:List av)(x:av)(s:BA),iB (l++[x]) s=if s=x.path then some x else iB l s
 | [],x,s=>by
  by_cases h:s=x.path
  ·simp[iB,h]
  ·simp[iB,h];exact fun e=>h e.symm
 | y::r,x,s=>by
  rw[List.cons_append,iB,vQ r x s];by_cases h:s=x.path
  ·rw[if_pos h,if_pos h]
  ·rw[if_neg h,if_neg h,iB]
def Dd (x:av):Value:=.agg #[.string x.path,.int .i64 x.kind,.int .i64 x.mode,.string x.owner,.string x.group,.string x.link,.string x.sum,.bool x.conf]
def Rl (l:List av)(s:BA):Option Value:=(iB l s).map Dd
theorem Nf (l:List av)(x:av):Rl (l++[x])=fun s=>if s=x.path then some (Dd x) else Rl l s:=by
 funext s
 unfold Rl;rw[vQ];by_cases h:s=x.path
 ·rw[if_pos h,if_pos h];rfl
 ·rw[if_neg h,if_neg h]
def jz (fmt:Int)(conf:List BA)(pre:List av)(x:ag):av:=
 ⟨x.path,if x.kind=4 then 1 else x.kind,x.mode,x.owner,x.group,if x.kind=3 then x.link else ⟨#[]⟩,
  if x.kind=1 then At fmt x.data else if x.kind=4 then ((iB pre x.link).map av.sum).getD ⟨#[]⟩ else ⟨#[]⟩,yL conf x.path⟩
def bz (fmt:Int)(conf:List BA):List ag->List av
 | l=>l.foldl (fun pre x=>pre++[jz fmt conf pre x]) []
theorem qq (fmt:Int)(conf:List BA)(l:List ag)(x:ag):bz fmt conf (l++[x])=bz fmt conf l++[jz fmt conf (bz fmt conf l) x]:=by
 unfold bz;rw[List.foldl_append];rfl
theorem np (fmt:Int)(conf:List BA):∀ (l:List ag)(pre:List av),(l.foldl (fun pre x=>pre++[jz fmt conf pre x]) pre).length=pre.length+l.length
 | [],pre=>rfl
 | x::r,pre=>by rw[List.foldl_cons,np fmt conf r];simp;omega
end
end Go.Proofs.YtlglfpbhapmhiaaGreatDoor
