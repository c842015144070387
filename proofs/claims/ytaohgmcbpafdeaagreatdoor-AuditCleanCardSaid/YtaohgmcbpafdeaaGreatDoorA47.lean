/- A part of the proof. -/
import Derived.Test.YtaohgmcbpafdeaaGreatDoorA46
set_option maxRecDepth 100000
set_option maxHeartbeats 20000000
set_option linter.unusedVariables false
set_option linter.unusedSimpArgs false
namespace Go.Proofs.YtaohgmcbpafdeaaGreatDoor
section
open Go.RowKit Go.Maps Go.Shelf
def eR:av:=⟨⟨#[97]⟩,2,0,⟨#[114,111,111,116]⟩,⟨#[114,111,111,116]⟩,⟨#[]⟩,⟨#[]⟩,false⟩
def gB (fb:Nat):bJ:={ nm:=⟨#[97,97]⟩,ver:=⟨#[49,45,49]⟩,ar:=⟨#[97,108,108]⟩,sm:=⟨#[115]⟩,na:=none,nc:=0,needs:=[],ba:=none,bc:=0,bars:=[],ga:=none,gc:=0,gives:=[],fa:=some ⟨fb,0,none⟩,fc:=1,files:=[eR],sa:=none,sc:=0,scripts:=[] }
theorem xY {w:World}{b sz:Nat}{vs:LV}(h:ax w b vs)(hl:vs.length=sz):Rd w sz (some ⟨b,0,none⟩) 1 vs:=
 ⟨by rw[hl];simp,fun _=>⟨b,0,rfl,fun j u hu=>by simpa using h.cell j u hu⟩⟩
theorem N4 {w:World}{fb:Nat}(h:ax w fb eR.cells):(gB fb).ok w:=
 ⟨Rd.nil _ _ _,Rd.nil _ _ _,Rd.nil _ _ _,xY (vs:=eR.cells) h rfl,Rd.nil _ _ _⟩
theorem N5 {w:World}{fb pb:Nat}(h:ax w fb eR.cells)(hp:ax w pb (gB fb).cells):oO w (some ⟨pb,0,none⟩) [gB fb]:=
 ⟨xY (vs:=(gB fb).cells) hp rfl,fun p hp=>by rw[List.mem_singleton.1 hp];exact N4 h⟩
theorem OT:jd 1 [] eR=0:=by
 have h1:(cy (bl eR.path)&&iE (bl eR.path))=true:=by decide
 have h2:fS ([]:List av).getLast? eR=true:=by rfl
 have h3:bW 1 eR=true:=by decide
 have h4:jc [] eR=false:=by decide
 unfold jd
 rw[h1,h2,h3,h4]
 decide
theorem N6:cM 1 [eR]=(⟨#[]⟩,0):=by
 unfold cM
 rw[if_neg (by decide)]
 simp[dt,OT]
theorem OU (fb:Nat):gU [gB fb]=[(⟨#[97]⟩,⟨#[97,97]⟩)]:=by simp[gU,fE,dd,bg,gB,eR]
theorem Ho (fb:Nat):(gB fb).fits:=by
 refine⟨(by decide:(2:Nat)≤9223372036854775807),(by decide:(3:Nat)≤9223372036854775807),(by decide:(3:Nat)≤9223372036854775807),(by decide:(1:Nat)≤9223372036854775807),z0,z0,z0,(by decide:(1:Nat)≤9223372036854775807),z0,?_,?_,?_,?_,?_⟩
 ·intro s hs;cases hs
 ·intro s hs;cases hs
 ·intro s hs;cases hs
 ·intro x hx;rw[List.mem_singleton.1 (show x∈[eR] from hx)];decide
 ·intro s hs;cases hs
theorem OV (fb:Nat):(fT 1 (gB fb)).2=0:=by
 have h1:jg 1=true:=by decide
 have h2:dy (bl ⟨#[97,97]⟩)=true:=by decide
 have h3:cG 1 ⟨#[49,45,49]⟩=0:=by decide
 have h4:kO 1 ⟨#[97,108,108]⟩=true:=by simp[kO,aw]
 have h5:rE (bl ⟨#[115]⟩)=true:=by decide
 have h6:∀ b,eH 1 b (GR 1) []=true:=fun b=>by cases b<;>rfl
 have h7:jb 1 []=true:=rfl
 have h8:dE 1 []=0:=rfl
 unfold fT
 show(MH (jg 1) (dy (bl ⟨#[97,97]⟩)) (cG 1 ⟨#[49,45,49]⟩) (kO 1 ⟨#[97,108,108]⟩) (rE (bl ⟨#[115]⟩)) (eH 1 false (GR 1) []) (eH 1 true (GR 1) []) (jb 1 []) (cM 1 [eR]) (dE 1 [])).2=0
 rw[h1,h2,h3,h4,h5,h6,h6,h7,h8,N6]
 rfl
theorem Mo (fb:Nat):(yn (fT 1) (jg 1) [gB fb]).2.2=0:=by
 have h1:jg 1=true:=by decide
 rw[h1,Ah rfl (by simp)]
 have h2:(CZ (fT 1 (gB fb)) [] (gB fb)).2.2=0:=by
  have h:=OV fb
  generalize fT 1 (gB fb)=r at h
  obtain⟨r1,r2⟩:=r
  simp only at h
  subst h
  rfl
 unfold uv
 rw[if_pos h2]
 rfl
def eB:am:=⟨⟨#[98]⟩,1,0,0,0,⟨#[]⟩,⟨#[]⟩,0,⟨#[]⟩,none,0,[]⟩
theorem OX:(nR [eB]).2=0:=by
 have h:fZ [] eB=0:=by decide
 unfold nR
 rw[if_neg (by simp)]
 unfold eW
 rw[if_pos h]
 rfl
theorem N7 (fb:Nat):pK 1 [gB fb] [eB]=0:=by
 unfold pK
 rw[if_neg (by rw[Mo];simp),OX]
def fA:cl:=(⟨#[97]⟩,1)
def fB:cl:=(⟨#[98]⟩,5)
theorem Mp (fb:Nat)(x:cl):lF 1 [gB fb] (NO [gB fb]) [eB] x↔x=fA∨x=fB:=by
 have ha:bL [gB fb]=[eR]:=rfl
 have hh:eL 1 [eB] eR=[fA]:=by
  unfold eL
  rw[show aV [eB] eR.path=none by decide]
  rfl
 have hl:ek [eR] fB.1=none:=by decide
 unfold lF
 rw[ha]
 constructor
 ·rintro(⟨f,hf,hx⟩ | ⟨_,⟨_,hs⟩,_⟩ | ⟨h5,⟨e,he,hp⟩,_⟩)
  ·rw[List.mem_singleton.1 hf,hh] at hx
   exact .inl (List.mem_singleton.1 hx)
  ·exfalso
   have:(kC (gU [gB fb]) x.1).length≤1:=by
    rw[OU]
    unfold kC
    rw[List.length_map]
    exact List.length_filter_le _ _
   omega
  ·right
   rw[List.mem_singleton.1 he] at hp
   obtain⟨x1,x2⟩:=x
   simp only at h5 hp
   rw[h5,←hp];rfl
 ·rintro(rfl | rfl)
  ·exact .inl ⟨eR,List.mem_singleton.2 rfl,by rw[hh];exact List.mem_singleton.2 rfl⟩
  ·exact .inr (.inr ⟨rfl,⟨eB,List.mem_singleton.2 rfl,rfl⟩,hl⟩)
theorem N8 {l:List cl}(hn:l.Nodup)(hp:l.Pairwise (fun x y=>¬ yl y x))(hm:∀ x,x∈l↔x=fA∨x=fB):l=[fA,fB]:=by
 have hne:fA≠fB:=by decide
 have hlt:yl fA fB:=by decide
 have hperm:l.Perm [fA,fB]:=(List.perm_ext_iff_of_nodup hn (by simp[hne])).2 fun x=>by rw[hm];simp
 have hlen:=hperm.length_eq
 match l,hn,hp,hm,hlen with
 | [x,y],hn,hp,hm,_=>
  have hx:=(hm x).1 (by simp)
  have hy:=(hm y).1 (by simp)
  have hxy:x≠y:=by
   intro e;subst e
   simp at hn
  have ho:¬ yl y x:=(List.pairwise_cons.1 hp).1 y (by simp)
  rcases hx with rfl | rfl<;>rcases hy with rfl | rfl
  ·exact absurd rfl hxy
  ·rfl
  ·exact absurd hlt ho
  ·exact absurd rfl hxy
end
end Go.Proofs.YtaohgmcbpafdeaaGreatDoor
