/- A part of the proof. -/
import Derived.Test.YtlglfpbhapmhiaaGreatDoorK38
import Derived.Test.YtlglfpbhapmhiaaGreatDoorK45
set_option maxRecDepth 100000
set_option maxHeartbeats 20000000
set_option linter.unusedVariables false
set_option linter.unusedSimpArgs false
namespace Go.Proofs.YtlglfpbhapmhiaaGreatDoor
section
open Go.RowKit Go.Maps
theorem IT {p:bN}(h:zK p≤10000):p.few:=by
 unfold zK dw cA eO gq eS at h
 have a1:=fY (fun s:BA=>1+s.size) (fun _=>by omega) p.needs
 have a2:=fY (fun s:BA=>1+s.size) (fun _=>by omega) p.bars
 have a3:=fY (fun x:cM=>1+x.nm.size+x.ver.size) (fun _=>by omega) p.gives
 have a4:=fY (fun x:ax=>1+x.path.size+x.owner.size+x.group.size+x.link.size+x.sum.size) (fun _=>by omega) p.files
 have a5:=fY (fun x:aT=>1+x.body.size) (fun _=>by omega) p.scripts
 exact⟨by omega,by omega,by omega,by omega,by omega⟩
def dt.caps (b:dt):Prop:=∀ x∈b.ents,x.data.length≤x.dc∧x.dc≤9223372036854775807
theorem dt.lite.small {b:dt}(h:b.lite)(hc:b.caps):b.small:=
 ⟨bN.small_of (by have:=h.pk;omega),IT h.pk,by have:=h.conf;omega,fun s hs=>by have:=h.conf_ s hs;omega,by have:=h.ents;omega,fun x hx=>
  have k:=h.ents_ x hx
  ⟨by have:=k.path;omega,by have:=k.owner;omega,by have:=k.group;omega,by have:=k.link;omega,by have:=k.data;omega,(hc x hx).1,(hc x hx).2⟩⟩
theorem IU (fmt:Int):EU fmt [33]=false:=by
 unfold EU
 split
 ·kernel_rfl
 split
 ·kernel_rfl
 ·kernel_rfl
theorem BU {fmt:Int}{p:bN}{s:BA}{r:List BA}(h:(jb fmt p).2=0)(hn:p.needs=s::r):s≠⟨#[33]⟩:=by
 intro hs
 have ht:eR fmt false (EU fmt) p.needs=false:=by
  rw[hn,hs]
  unfold eR
  rw[List.all_cons,show bl ⟨#[33]⟩=[33] from rfl,IU]
  simp
 unfold jb KI at h
 rw[ht] at h
 split at h
 ·simp at h
 split at h
 ·simp at h
 split at h
 ·rename_i h3;exact h3 h
 split at h
 ·simp at h
 split at h
 ·simp at h
 simp at h
def Ne (fmt:Int)(b:dt)(w:World)(e:Ending)(w':World):Prop:=Below w.heap.size w w'∧∃ (q:bN)(n s:BA)(cd:Int),e=.returned (.tuple #[q.val,.agg #[.string n,.string s,.int .i64 cd]]) ∧
 w'.ownsRow w.heap.size 9 1 (.slice q.na q.needs.length q.nc) q.needs.length (az q.needs)∧w'.ownsRow w.heap.size 44 2 (.slice q.sa q.scripts.length q.sc) q.scripts.length (q.scripts.flatMap aT.cells) ∧
 q.needs.length≤100000∧q.scripts.length≤100000∧(0<q.needs.length→q.needs=b.pk.needs∧(jb fmt b.pk).2=0)
def IV:bN:={ nm:=⟨#[]⟩,ver:=⟨#[]⟩,ar:=⟨#[]⟩,sm:=⟨#[]⟩,needs:=[],bars:=[],gives:=[],files:=[],scripts:=[],na:=none,nc:=0,ba:=none,bc:=0,ga:=none,gc:=0,fa:=none,fc:=0,sa:=none,sc:=0 }
theorem up (fmt:Int)(b:dt)(w:World)(hG:wn w)(hT:qj w)(hb:b.ok w)(hs:b.small):Calls Tryz.prog 7 #[.int .i64 fmt,b.val] w (Ne fmt b w):=by
 refine(ly fmt b w hG hT hb hs).mono ?_
 rintro e w' ⟨hbel,⟨hbad,rfl⟩ | ⟨hok,q,A,c,hi,l,rfl,hal,hperm,hpw,hq,hhi,how⟩⟩
 ·refine⟨hbel,IV,b.pk.nm,(kG fmt b).1,(kG fmt b).2,?_,World.ownsRow_nil _ _ _ _,World.ownsRow_nil _ _ _ _,by decide,by decide,fun h=>by simp[IV] at h⟩
  rw[gb (rfl:kG fmt b=((kG fmt b).1,(kG fmt b).2)) hbad]
  rfl
 ·refine⟨hbel,{ q with fa:=A,fc:=c,files:=l },⟨#[]⟩,⟨#[]⟩,0,rfl,aN hq.nd (by omega),aN hq.sp (by omega),?_,?_,fun _=>⟨hal.needs.symm,(vv hok).2.1⟩⟩
  ·show q.needs.length≤100000
   rw[←hal.needs];exact hs.few.needs
  ·show q.scripts.length≤100000
   rw[←hal.scripts];exact hs.few.scripts
theorem IW {l:List am}{i n:Nat}{x:am}(hx:x.data.length≤n)(hl:∀ y∈l,y.data.length≤n):(pi l i x).data.length≤n:=by
 have hd:∀ k:Nat,(ph l k).length≤n:=fun k=>by
  unfold ph
  cases h:l[k]? with
  | none=>simp
  | some y=>simpa using hl y (gM h)
 unfold pi
 split
 ·split
  ·exact hd _
  ·exact z0
 ·exact hx
def Nf (w:World)(e:Ending)(w':World):Prop:=Below w.heap.size w w'∧∃ (r:dt)(n s:BA)(cd:Int),e=.returned (.tuple #[r.val,.agg #[.string n,.string s,.int .i64 cd]]) ∧
 w'.ownsRow w.heap.size 9 1 (.slice r.ca r.conf.length r.cc) r.conf.length (az r.conf)∧w'.ownsRow w.heap.size 35 10 (.slice r.ea r.ents.length r.ec) r.ents.length (r.ents.flatMap am.cells) ∧
 (∀ y∈r.ents,y.own w' w.heap.size)∧r.conf.length≤100000∧r.ents.length≤100000∧∀ y∈r.ents,y.data.length≤1000000
theorem zz (fmt:Int)(b:dt)(w:World)(hG:wn w)(hb:b.ok w)(hs:b.small):Calls Tryz.prog 8 #[.int .i64 fmt,b.val] w (Nf w):=by
 refine(wZ fmt b w hG hb hs).mono ?_
 rintro e w' ⟨hbel,⟨hbad,rfl⟩ | ⟨hok,q,Ac,A,cc,c,m0,m,rfl,hal,hown,hcf,hml,hms,hmp,hmo,her,heo⟩⟩
 ·refine⟨hbel,⟨IV,none,0,[],none,0,[]⟩,b.pk.nm,(kG fmt b).1,(kG fmt b).2,?_,World.ownsRow_nil _ _ _ _,World.ownsRow_nil _ _ _ _,(fun y hy=>by simp at hy),by decide,by decide,fun y hy=>by simp at hy⟩
  rw[gb (rfl:kG fmt b=((kG fmt b).1,(kG fmt b).2)) hbad]
  rfl
 ·have hlm:m.length=b.ents.length:=by rw[hmp.length_eq,hml]
  refine⟨hbel,⟨q,Ac,cc,b.conf,A,c,m⟩,⟨#[]⟩,⟨#[]⟩,0,?_,aN hcf (by omega),?_,fun y hy=>aN (heo y hy) (by omega),hs.conf,?_,?_⟩
  ·unfold dt.val KQ;rw[hlm]
  ·show w'.ownsRow _ _ _ (.slice A m.length c) m.length _
   rw[hlm];exact aN her (by omega)
  ·show m.length≤100000
   rw[hlm];exact hs.ents
  ·intro y hy
   have h0:=hmp.mem_iff.1 hy
   obtain⟨i,hi⟩:=List.mem_iff_getElem?.1 h0
   have hi':i<b.ents.length:=by rw[←hml];exact(gS hi).1
   have hd:=(hms i _ y (gG hi') hi).data
   rw[←hd]
   exact IW (hs.ents_ _ (List.getElem_mem hi')).data (fun z hz=>(hs.ents_ z hz).data)
end
end Go.Proofs.YtlglfpbhapmhiaaGreatDoor
