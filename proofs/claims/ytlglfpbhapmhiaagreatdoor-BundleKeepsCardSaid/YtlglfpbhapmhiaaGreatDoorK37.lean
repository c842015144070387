/- A part of the proof. -/
import Derived.Test.YtlglfpbhapmhiaaGreatDoorK34
import Derived.Test.YtlglfpbhapmhiaaGreatDoorK35
set_option maxRecDepth 100000
set_option maxHeartbeats 20000000
set_option linter.unusedVariables false
set_option linter.unusedSimpArgs false
namespace Go.Proofs.YtlglfpbhapmhiaaGreatDoor
section
open Go.RowKit
structure dt where
 pk:bN
 ca:OA
 cc:Nat
 conf:List BA
 ea:OA
 ec:Nat
 ents:List am
def dt.val (b:dt):Value:=.agg #[.string b.pk.nm,.string b.pk.ver,.string b.pk.ar,.string b.pk.sm,.slice b.pk.na b.pk.needs.length b.pk.nc,.slice b.pk.ba b.pk.bars.length b.pk.bc,.slice b.pk.ga b.pk.gives.length b.pk.gc,.slice b.pk.fa b.pk.files.length b.pk.fc,.slice b.pk.sa b.pk.scripts.length b.pk.sc,.slice b.ca b.conf.length b.cc,.slice b.ea b.ents.length b.ec]
def dt.cells (b:dt):LV:=[.string b.pk.nm,.string b.pk.ver,.string b.pk.ar,.string b.pk.sm,.slice b.pk.na b.pk.needs.length b.pk.nc,.slice b.pk.ba b.pk.bars.length b.pk.bc,.slice b.pk.ga b.pk.gives.length b.pk.gc,.slice b.pk.fa b.pk.files.length b.pk.fc,.slice b.pk.sa b.pk.scripts.length b.pk.sc,.slice b.ca b.conf.length b.cc,.slice b.ea b.ents.length b.ec]
structure dt.ok (b:dt) (w:World):Prop where
 pk:b.pk.ok w
 conf:Rd w 1 b.ca b.conf.length (az b.conf)
 ents:fL w b.ea b.ents
theorem dt.ok.below {b:dt}{w w':World}(h:b.ok w)(hb:Below w.heap.size w w'):b.ok w':=⟨h.pk.below hb,h.conf.below hb,h.ents.below hb⟩
structure dt.small (b:dt):Prop where
 pk:b.pk.small
 few:b.pk.few
 conf:b.conf.length≤100000
 conf_:∀ s∈b.conf,s.size≤1000000
 ents:b.ents.length≤100000
 ents_:∀ x∈b.ents,x.small
def dL (fmt:Int)(x:am):Bool:=dN fmt x.owner&&(dN fmt x.group&&(decide (x.uid=0)&&(decide (x.gid=0)&&(decide (x.mtime≤4294967295)&&(!decide (x.kind=3)||(decide (x.mode=511)&&fM (bl x.link)))))))
def uk (fmt:Int)(x:am):Int:=if fM (bl x.path)=false then 10 else if dL fmt x=false then 1 else 0
def eX (fmt:Int):List am→BA×Int
 | []=>(⟨#[]⟩,0)
 | x::r=>if uk fmt x=0 then eX fmt r else (x.path,uk fmt x)
theorem BF {fmt:Int}{l:List am}{k:Nat}{x:am}(h:l[k]?=some x)(h0:eX fmt l=eX fmt (l.drop k))(he:uk fmt x=0):eX fmt l=eX fmt (l.drop (k+1)):=by
 obtain⟨hk,hf⟩:=gS h
 rw[h0,List.drop_eq_getElem_cons hk,hf,eX,if_pos he]
theorem vp {fmt:Int}{l:List am}{k:Nat}{x:am}(h:l[k]?=some x)(h0:eX fmt l=eX fmt (l.drop k))(he:uk fmt x≠0):eX fmt l=(x.path,uk fmt x):=by
 obtain⟨hk,hf⟩:=gS h
 rw[h0,List.drop_eq_getElem_cons hk,hf,eX,if_neg he]
theorem Fl {fmt:Int}{l:List am}{k:Nat}(hk:l.length≤k)(h0:eX fmt l=eX fmt (l.drop k)):eX fmt l=(⟨#[]⟩,0):=by
 rw[h0,List.drop_of_length_le hk];rfl
def qm:List am→BA→Option Int
 | [],_=>none
 | x::r,s=>match qm r s with
  | some k=>some k
  | none=>if x.path=s then some x.kind else none
theorem pH:∀ (l:List am)(x:am)(s:BA),qm (l++[x]) s=if s=x.path then some x.kind else qm l s
 | [],x,s=>by
  by_cases h:s=x.path
  ·simp[qm,h]
  ·simp[qm,h];exact fun e=>h e.symm
 | y::r,x,s=>by
  rw[List.cons_append,qm,pH r x s]
  by_cases h:s=x.path
  ·rw[if_pos h,if_pos h]
  ·rw[if_neg h,if_neg h,qm]
def KL (l:List am)(s:BA):Option Value:=(qm l s).map fun k=>.int .i64 k
theorem Iq (l:List am)(x:am):KL (l++[x])=fun s=>if s=x.path then some (.int .i64 x.kind) else KL l s:=by
 funext s
 unfold KL
 rw[pH]
 by_cases h:s=x.path
 ·rw[if_pos h,if_pos h];rfl
 ·rw[if_neg h,if_neg h]
def MI (prev:Option BA)(s:BA):Bool:=match prev with
 | none=>true
 | some t=>decide (bl t<bl s)
def Ir (l:List am)(prev:Option BA)(s:BA):Bool:=MI prev s&&(decide ((qm l s).getD 0=1)||decide ((qm l s).getD 0=4))
def my (l:List am):Option BA→List BA→Bool
 | _,[]=>true
 | p,s::r=>Ir l p s&&my l (some s) r
def wU (fmt:Int)(conf:List BA)(l:List am):Bool:=if fmt=3 then decide (conf.length=0) else my l none conf
def kG (fmt:Int)(b:dt):BA×Int:=
 if 0<b.pk.files.length then (⟨#[102,105,108,101,115]⟩,1) else if (jb fmt b.pk).2≠0 then jb fmt b.pk
 else if 512<b.ents.length then (⟨#[101,110,116,114,105,101,115]⟩,4)
 else if (pt b.ents).2≠0 then (((b.ents[(pt b.ents).1]?).map (·.path)).getD ⟨#[]⟩,(pt b.ents).2)
 else if (eX fmt b.ents).2≠0 then eX fmt b.ents
 else if wU fmt b.conf b.ents=false then (⟨#[99,111,110,102]⟩,1) else (⟨#[]⟩,0)
def zF (l:List BA)(s:BA):Nat→Nat→Nat→Nat
 | 0,i,_=>i
 | f+1,i,j=>if i<j then (if bl (l.getD ((i+j) / 2) ⟨#[]⟩)<bl s then zF l s f ((i+j) / 2+1) j else zF l s f i ((i+j) / 2)) else i
def FV (l:List BA)(s:BA):Bool:=decide (l[zF l s l.length 0 l.length]?=some s)
def JX (fmt:Int):Nat:=if fmt=1 then 1 else if fmt=2 then 3 else 2
def MJ (fmt:Int)(bs:LU):BA:=⟨(oj (fh (JX fmt) bs)).toArray⟩
def kD:List ax→BA→Option ax
 | [],_=>none
 | x::r,s=>match kD r s with
  | some k=>some k
  | none=>if x.path=s then some x else none
theorem sU:∀ (l:List ax)(x:ax)(s:BA),kD (l++[x]) s=if s=x.path then some x else kD l s
 | [],x,s=>by
  by_cases h:s=x.path
  ·simp[kD,h]
  ·simp[kD,h];exact fun e=>h e.symm
 | y::r,x,s=>by
  rw[List.cons_append,kD,sU r x s]
  by_cases h:s=x.path
  ·rw[if_pos h,if_pos h]
  ·rw[if_neg h,if_neg h,kD]
def zo (x:ax):Value:=.agg #[.string x.path,.int .i64 x.kind,.int .i64 x.mode,.string x.owner,.string x.group,.string x.link,.string x.sum,.bool x.conf]
def LO (l:List ax)(s:BA):Option Value:=(kD l s).map zo
theorem Is (l:List ax)(x:ax):LO (l++[x])=fun s=>if s=x.path then some (zo x) else LO l s:=by
 funext s
 unfold LO
 rw[sU]
 by_cases h:s=x.path
 ·rw[if_pos h,if_pos h];rfl
 ·rw[if_neg h,if_neg h]
def je (fmt:Int)(conf:List BA)(pre:List ax)(x:am):ax:=
 ⟨x.path,if x.kind=4 then 1 else x.kind,x.mode,x.owner,x.group,if x.kind=3 then x.link else ⟨#[]⟩,
  if x.kind=1 then MJ fmt x.data else if x.kind=4 then ((kD pre x.link).map ax.sum).getD ⟨#[]⟩ else ⟨#[]⟩,FV conf x.path⟩
def bM (fmt:Int)(conf:List BA):List am→List ax
 | l=>l.foldl (fun pre x=>pre++[je fmt conf pre x]) []
theorem wV (fmt:Int)(conf:List BA)(l:List am)(x:am):bM fmt conf (l++[x])=bM fmt conf l++[je fmt conf (bM fmt conf l) x]:=by
 unfold bM;rw[List.foldl_append];rfl
theorem lq (fmt:Int)(conf:List BA):∀ (l:List am)(pre:List ax),(l.foldl (fun pre x=>pre++[je fmt conf pre x]) pre).length=pre.length+l.length
 | [],pre=>rfl
 | x::r,pre=>by rw[List.foldl_cons,lq fmt conf r];simp;omega
end
end Go.Proofs.YtlglfpbhapmhiaaGreatDoor
