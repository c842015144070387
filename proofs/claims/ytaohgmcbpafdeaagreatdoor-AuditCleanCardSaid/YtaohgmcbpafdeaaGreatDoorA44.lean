/- A part of the proof. -/
import Derived.Test.YtaohgmcbpafdeaaGreatDoorA40
set_option maxRecDepth 100000
set_option maxHeartbeats 20000000
set_option linter.unusedVariables false
set_option linter.unusedSimpArgs false
namespace Go.Proofs.YtaohgmcbpafdeaaGreatDoor
section
open Go.RowKit Go.Maps Go.Shelf Go.MapKept
theorem lG {fs:List cl}{k x:cl}:x∈kI fs k↔x∈fs∨x=k:=by
 unfold kI
 split
 ·rename_i h
  exact⟨.inl,fun h'=>h'.elim id (fun e=>e ▸ rx.1 h)⟩
 ·rw[List.mem_append,List.mem_singleton]
theorem lH (fs:List cl)(k:cl):(kI fs k).length≤fs.length+1:=by
 unfold kI;split
 ·omega
 ·simp
def io:List am→BA→Option am
 | [],_=>none
 | x::r,s=>match io r s with
  | some k=>some k
  | none=>if x.path=s then some x else none
theorem uh:∀ (l:List am)(x:am)(s:BA),io (l++[x]) s=if s=x.path then some x else io l s
 | [],x,s=>by
  by_cases h:s=x.path
  ·simp[io,h]
  ·simp[io,h];exact fun e=>h e.symm
 | y::r,x,s=>by
  rw[List.cons_append,io,uh r x s]
  by_cases h:s=x.path
  ·rw[if_pos h,if_pos h]
  ·rw[if_neg h,if_neg h,io]
theorem wv:∀ {l:List am}{s:BA}{y:am},io l s=some y→y∈l∧y.path=s
 | [],_,_,h=>by cases h
 | x::r,s,y,h=>by
  unfold io at h
  cases hr:io r s with
  | some k=>
   rw[hr] at h
   injection h with h;subst h
   obtain⟨a,b⟩:=wv hr
   exact⟨List.mem_cons_of_mem _ a,b⟩
  | none=>
   rw[hr] at h
   simp only at h
   split at h
   ·injection h with h;subst h;rename_i hp;exact⟨List.mem_cons_self ..,hp⟩
   ·cases h
theorem ui:∀ {l:List am}{s:BA},io l s=none→∀ y∈l,y.path≠s
 | [],_,_,y,hy=>by simp at hy
 | x::r,s,h,y,hy=>by
  unfold io at h
  cases hr:io r s with
  | some k=>rw[hr] at h;cases h
  | none=>
   rw[hr] at h
   simp only at h
   split at h
   ·cases h
   ·rename_i hp
    rcases List.mem_cons.1 hy with rfl | hy
    ·exact hp
    ·exact ui hr y hy
theorem uj {l:List am}(h:kY l)(s:BA):io l s=aV l s:=by
 cases h1:io l s with
 | none=>
  cases h2:aV l s with
  | none=>rfl
  | some y=>obtain⟨a,b⟩:=dA h2;exact absurd b (ui h1 y a)
 | some y=>
  obtain⟨a,b⟩:=wv h1
  rw[←b]
  exact(lP a fun z hz e=>by
   obtain⟨i,hi⟩:=List.getElem?_of_mem hz
   obtain⟨j,hj⟩:=List.getElem?_of_mem a
   have:=h.nd i j z y hi hj e
   subst this;rw[hi] at hj;injection hj).symm
theorem qk:∀ (l:List av)(x:av)(s:BA),ek (l++[x]) s=if s=x.path then some x else ek l s
 | [],x,s=>by
  by_cases h:s=x.path
  ·simp[ek,h]
  ·simp[ek,h];exact fun e=>h e.symm
 | y::r,x,s=>by
  rw[List.cons_append,ek,qk r x s]
  by_cases h:s=x.path
  ·rw[if_pos h,if_pos h]
  ·rw[if_neg h,if_neg h,ek]
def nz (l:List am)(s:BA):Option Value:=(io l s).map am.val
def qO (l:List av)(s:BA):Option Value:=(ek l s).map fun x=>.agg #[.string x.path,.int .i64 x.kind,.int .i64 x.mode,.string x.owner,.string x.group,.string x.link,.string x.sum,.bool x.conf]
theorem Hi (l:List am)(x:am):nz (l++[x])=fun s=>if s=x.path then some x.val else nz l s:=by
 funext s
 unfold nz
 rw[uh]
 split<;>rfl
theorem Hj (l:List av)(x:av):qO (l++[x])=fun s=>if s=x.path then some (.agg #[.string x.path,.int .i64 x.kind,.int .i64 x.mode,.string x.owner,.string x.group,.string x.link,.string x.sum,.bool x.conf]) else qO l s:=by
 funext s
 unfold qO
 rw[qk]
 split<;>rfl
def Pm:Array Value:=#[.string ⟨#[]⟩,.int .i64 0,.int .i64 0,.int .i64 0,.int .i64 0,.string ⟨#[]⟩,.string ⟨#[]⟩,.int .i64 0,.string ⟨#[]⟩,.slice none 0 0]
theorem uk (w:World):(zeroValue 45).run Tryz.prog w=.ok (.agg Pm) w:=by kernel_rfl
def Pn:Array Value:=#[.string ⟨#[]⟩,.int .i64 0,.int .i64 0,.string ⟨#[]⟩,.string ⟨#[]⟩,.string ⟨#[]⟩,.string ⟨#[]⟩,.bool false]
theorem ul (w:World):(zeroValue 42).run Tryz.prog w=.ok (.agg Pn) w:=by kernel_rfl
def KY:LV:=[.string ⟨#[]⟩,.string ⟨#[]⟩,.int .i64 0]
theorem gJ.keptM {w w':World}{b c:Nat}{ks:List cl}(h:gJ w b ks)(hg:w.grownBy w' (some c))(hne:b≠c):gJ w' b ks:=h.block (hg.block b h.lt (by intro e;injection e with e;exact hne e))
structure ww (w0 wr:World) (r ab:Nat) (fmt:Int) (m1 m2:Nat) (ks:List cl) (n1:Nat) (f1:BA→Option Value):Prop where
 bel:Below w0.heap.size w0 wr
 res:ax wr r KY
 aud:yu wr ab fmt m1 m2 ks
 ent:aX wr m1 n1 f1
 ord:w0.heap.size≤r∧r<m1∧m1<m2∧m2<ab
section
variable {w0 wr w' : World} {r ab m1 m2 m3 n1 n2 : Nat} {fmt : Int} {ks ks2 : List cl} {f1 f2 : BA → Option Value}
theorem ww.step (h:ww w0 wr r ab fmt m1 m2 ks n1 f1)(hb:Below wr.heap.size wr w'):ww w0 w' r ab fmt m1 m2 ks n1 f1:=
 ⟨aq h.bel hb,h.res.below hb,h.aud.below hb,h.ent.below hb,h.ord⟩
theorem ww.put (h:ww w0 wr r ab fmt m1 m2 ks n1 f1)(hg:wr.grownBy w' (some m1))(hm:aX w' m1 n2 f2):ww w0 w' r ab fmt m1 m2 ks n2 f2:=by
 obtain⟨o1,o2,o3,o4⟩:=h.ord
 exact⟨h.bel.grown hg h.bel.size (fun j hj=>by injection hj with hj;omega),h.res.grownC hg (by omega),⟨h.aud.blk.grownC hg (by omega),h.aud.map.keptM hg (by omega)⟩,hm,h.ord⟩
theorem ww.far (h:ww w0 wr r ab fmt m1 m2 ks n1 f1)(hg:wr.grownBy w' (some m3))(h3:ab<m3):ww w0 w' r ab fmt m1 m2 ks n1 f1:=by
 obtain⟨o1,o2,o3,o4⟩:=h.ord
 exact⟨h.bel.grown hg h.bel.size (fun j hj=>by injection hj with hj;omega),h.res.grownC hg (by omega),⟨h.aud.blk.grownC hg (by omega),h.aud.map.keptM hg (by omega)⟩,h.ent.kept hg (by intro e;injection e with e;omega),h.ord⟩
theorem ww.noted (h:ww w0 wr r ab fmt m1 m2 ks n1 f1)(hg:wr.grownBy w' (some m2))(hm:gJ w' m2 ks2):ww w0 w' r ab fmt m1 m2 ks2 n1 f1:=by
 obtain⟨o1,o2,o3,o4⟩:=h.ord
 exact⟨h.bel.grown hg h.bel.size (fun j hj=>by injection hj with hj;omega),h.res.grownC hg (by omega),⟨h.aud.blk.grownC hg (by omega),hm⟩,h.ent.kept hg (by intro e;injection e with e;omega),h.ord⟩
theorem ww.made (hb:Below w0.heap.size w0 wr)(hr:ax wr r KY)(h0:w0.heap.size≤r)(h1:r<wr.heap.size):
  ww w0 (((wr.alloc (.map #[] 0)).alloc (.map #[] 0)).alloc (.cells #[.int .i64 fmt,.map (some wr.heap.size),.map (some (wr.heap.size+1))] 57)) r (wr.heap.size+1+1) fmt wr.heap.size (wr.heap.size+1) [] 0 (fun _=>none):=by
 have m1:=aX.made wr
 have m2:=gJ.made (wr.alloc (.map #[] 0))
 have b:=ax.new ((wr.alloc (.map #[] 0)).alloc (.map #[] 0)) [.int .i64 fmt,.map (some wr.heap.size),.map (some (wr.heap.size+1))] 57
 simp only[World.size_alloc] at b m2
 have B1:Below wr.heap.size wr (wr.alloc (.map #[] 0)):=bR.alloc lr _
 have B2:Below (wr.alloc (.map #[] 0)).heap.size (wr.alloc (.map #[] 0)) ((wr.alloc (.map #[] 0)).alloc (.map #[] 0)):=bR.alloc lr _
 have B3:Below ((wr.alloc (.map #[] 0)).alloc (.map #[] 0)).heap.size ((wr.alloc (.map #[] 0)).alloc (.map #[] 0)) (((wr.alloc (.map #[] 0)).alloc (.map #[] 0)).alloc (.cells #[.int .i64 fmt,.map (some wr.heap.size),.map (some (wr.heap.size+1))] 57)):=bR.alloc lr _
 have BB:=aq (aq B1 B2) B3
 exact⟨aq hb BB,hr.below BB,⟨b,m2.below B3⟩,(m1.below B2).below B3,h0,h1,by omega,by omega⟩
end
theorem Dr (p:Value)(W:World):Calls Tryz.prog 17 #[.string ⟨#[]⟩,p] W fun e w'=>e=.returned (.bool true)∧w'=W:=by
 go_enter Tryz.func17,Tryz.ntmps17
 go_wp2_with fail
 go_ret
 exact⟨rfl,rfl⟩
theorem Hk (rb ro c:Nat)(p:Value)(w:World)(h:w.cell? ⟨rb,ro,none⟩=some (.string ⟨#[]⟩)):
  Calls Tryz.prog 19 #[.slice (some ⟨rb,ro,none⟩) 1 c,.func (.func 17) #[] #[p]] w fun e w'=>e=.returned (.bool true)∧Below w.heap.size w w':=by
 have eg:∀ args w,(callFunc 17 args).run Tryz.prog w=.ok (.enter 17 args) w:=enters_of Tryz.func17 (by kernel_rfl) rfl
 refine(Tryz.slices_ContainsFunc (α:=Unit) (fun _=>.string ⟨#[]⟩) (fun _=>true) 17 #[p] eg rb ro 1 c [()] w (fun W _ _=>(Dr p W).mono fun _ _ ⟨he,hw⟩=>⟨he,0,hw⟩) (by simp) (by omega) (fun j hj=>by
  have:j=0:=by simpa using hj
  subst this;exact h)).mono ?_
 rintro e w' ⟨rfl,q,rfl⟩
 exact⟨rfl,an bR q⟩
end
end Go.Proofs.YtaohgmcbpafdeaaGreatDoor
