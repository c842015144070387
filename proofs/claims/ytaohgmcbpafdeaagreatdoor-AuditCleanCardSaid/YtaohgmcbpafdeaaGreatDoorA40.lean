/- A part of the proof. -/
import Derived.Test.YtaohgmcbpafdeaaGreatDoorA12
import Derived.Test.YtaohgmcbpafdeaaGreatDoorA39
set_option maxRecDepth 100000
set_option maxHeartbeats 20000000
set_option linter.unusedVariables false
set_option linter.unusedSimpArgs false
namespace Go.Proofs.YtaohgmcbpafdeaaGreatDoor
section
open Go.RowKit Go.Deep
open Go.RowKit
open Go.RowKit Go.Maps
def MG (nm:BA)(r:BA×Int):Value:=if r.2=0 then eS ⟨#[]⟩ ⟨#[]⟩ 0 else eS nm r.1 r.2
theorem JJ (nm what:BA):MG nm (what,0)=.agg #[.string ⟨#[]⟩,.string ⟨#[]⟩,.int .i64 0]:=rfl
theorem JK (nm what:BA){c:Int}(h:c≠0):MG nm (what,c)=.agg #[.string nm,.string what,.int .i64 c]:=by unfold MG;rw[if_neg h];rfl
structure RC (w wr:World):Prop where
 bel:Below w.heap.size w wr
 res:ax wr w.heap.size [.string ⟨#[]⟩,.string ⟨#[]⟩,.int .i64 0]
theorem RC.step {w wr w':World}(h:RC w wr)(hb:Below wr.heap.size wr w'):RC w w':=⟨aq h.bel hb,h.res.below hb⟩
theorem RC.alloc {w wr:World}(h:RC w wr)(o:Obj):RC w (wr.alloc o):=h.step (bR.alloc lr o)
theorem RC.start (w:World):RC w (w.alloc (.cells #[.string ⟨#[]⟩,.string ⟨#[]⟩,.int .i64 0] 30)):=
 ⟨bR.alloc lr _,ax.new w [.string ⟨#[]⟩,.string ⟨#[]⟩,.int .i64 0] _⟩
theorem RC.done {w wr:World}(h:RC w wr)(a b c:Value):Below w.heap.size w (((wr.setCell ⟨w.heap.size,0,none⟩ a).setCell ⟨w.heap.size,1,none⟩ b).setCell ⟨w.heap.size,2,none⟩ c):=
 ak (ak (ak h.bel lr _) lr _) lr _
theorem Pg {w:World}{b o:Nat}{p:bJ}(h:∀ (j:Nat)(u:Value),p.cells[j]?=some u→w.cell? ⟨b,o+j,none⟩=some u):
  w.cell? ⟨b,o,none⟩=some (.string p.nm)∧w.cell? ⟨b,o+1,none⟩=some (.string p.ver)∧w.cell? ⟨b,o+2,none⟩=some (.string p.ar)∧w.cell? ⟨b,o+3,none⟩=some (.string p.sm)∧w.cell? ⟨b,o+4,none⟩=some (.slice p.na p.needs.length p.nc)∧w.cell? ⟨b,o+5,none⟩=some (.slice p.ba p.bars.length p.bc)∧w.cell? ⟨b,o+6,none⟩=some (.slice p.ga p.gives.length p.gc)∧w.cell? ⟨b,o+7,none⟩=some (.slice p.fa p.files.length p.fc)∧w.cell? ⟨b,o+8,none⟩=some (.slice p.sa p.scripts.length p.sc):=
 ⟨h 0 _ rfl,h 1 _ rfl,h 2 _ rfl,h 3 _ rfl,h 4 _ rfl,h 5 _ rfl,h 6 _ rfl,h 7 _ rfl,h 8 _ rfl⟩
def Pt (w:World)(b o:Nat)(x:av):Prop:=
 w.cell? ⟨b,o,none⟩=some (.string x.path)∧w.cell? ⟨b,o+1,none⟩=some (.int .i64 x.kind)∧w.cell? ⟨b,o+2,none⟩=some (.int .i64 x.mode)∧w.cell? ⟨b,o+3,none⟩=some (.string x.owner)∧w.cell? ⟨b,o+4,none⟩=some (.string x.group)∧w.cell? ⟨b,o+5,none⟩=some (.string x.link)∧w.cell? ⟨b,o+6,none⟩=some (.string x.sum)∧w.cell? ⟨b,o+7,none⟩=some (.bool x.conf)
theorem OD {w:World}{b o:Nat}{x:av}(h:∀ (j:Nat)(u:Value),x.cells[j]?=some u→w.cell? ⟨b,o+j,none⟩=some u):Pt w b o x:=
 ⟨h 0 _ rfl,h 1 _ rfl,h 2 _ rfl,h 3 _ rfl,h 4 _ rfl,h 5 _ rfl,h 6 _ rfl,h 7 _ rfl⟩
theorem RC.six {w wr:World}(h:RC w wr):wr.cell? ⟨w.heap.size,0,none⟩=some (.string ⟨#[]⟩)∧wr.cell? ⟨w.heap.size,1,none⟩=some (.string ⟨#[]⟩)∧wr.cell? ⟨w.heap.size,2,none⟩=some (.int .i64 0)∧wr.frozen? ⟨w.heap.size,0,none⟩=false∧wr.frozen? ⟨w.heap.size,1,none⟩=false∧wr.frozen? ⟨w.heap.size,2,none⟩=false:=
 ⟨h.res.cell 0 _ rfl,h.res.cell 1 _ rfl,h.res.cell 2 _ rfl,h.res.free 0 (by simp),h.res.free 1 (by simp),h.res.free 2 (by simp)⟩
theorem JM {ans:bJ→BA×Int}{fo:Bool}{l:List bJ}(h:fo=false):Nt (yn ans fo l)=.agg #[.string ⟨#[]⟩,.string ⟨#[102,111,114,109,97,116]⟩,.int .i64 9]:=by unfold yn;rw[if_pos h];rfl
theorem GQ {ans:bJ→BA×Int}{fo:Bool}{l:List bJ}(h:fo=true)(hl:128<l.length):Nt (yn ans fo l)=.agg #[.string ⟨#[]⟩,.string ⟨#[112,97,99,107,97,103,101,115]⟩,.int .i64 4]:=by unfold yn;rw[if_neg (by rw[h];simp),if_pos hl];rfl
theorem Ah {ans:bJ→BA×Int}{fo:Bool}{l:List bJ}(h:fo=true)(hl:¬ 128<l.length):yn ans fo l=uv ans [] l:=by unfold yn;rw[if_neg (by rw[h];simp),if_neg hl]
theorem C7 (x y:av)(w:World):(binOp .neq 84 (.agg #[.int .i64 x.kind,.int .i64 x.mode,.string x.owner,.string x.group,.string x.link]) (.agg #[.int .i64 y.kind,.int .i64 y.mode,.string y.owner,.string y.group,.string y.link])).run Tryz.prog w=.ok (.bool (!lA x y)) w:=by
 go_simp
 unfold lA
 (repeat' split)<;>simp_all
theorem Ai (w:World):(zeroValue 84).run Tryz.prog w=.ok (.agg #[.int .i64 0,.int .i64 0,.string ⟨#[]⟩,.string ⟨#[]⟩,.string ⟨#[]⟩]) w:=by kernel_rfl
structure MC (w wr:World) (L:List av) (f:BA→Option Value):Prop where
 rc:RC w wr
 map:aX wr (w.heap.size+1) L.length f
 inv:pB L f
 sz:w.heap.size+2≤wr.heap.size
theorem MC.step {w wr w':World}{L:List av}{f:BA→Option Value}(h:MC w wr L f)(hb:Below wr.heap.size wr w'):MC w w' L f:=⟨h.rc.step hb,h.map.below hb,h.inv,Nat.le_trans h.sz hb.size⟩
theorem MC.start (w:World):MC w ((w.alloc (.cells #[.string ⟨#[]⟩,.string ⟨#[]⟩,.int .i64 0] 30)).alloc (.map #[] 0)) [] (fun _=>none):=
 ⟨(RC.start w).alloc _,by have:=aX.made (w.alloc (.cells #[.string ⟨#[]⟩,.string ⟨#[]⟩,.int .i64 0] 30));simpa using this,pB.nil,by simp⟩
theorem ax.grownC {wr w':World}{b c:Nat}{vs:LV}(h:ax wr c vs)(hg:wr.grownBy w' (some b))(hne:c≠b):ax w' c vs:=by
 have hk:w'.heap[c]?=wr.heap[c]?:=hg.block c h.sz (by intro e;injection e with e;exact hne e)
 refine⟨Nat.lt_of_lt_of_le h.sz hg.size,fun j u hu=>?_,fun j hj=>?_⟩
 ·exact(World.cell?_of_block (a:=⟨c,j,none⟩) hk).trans (h.cell j u hu)
 ·exact(World.frozen?_of_block (a:=⟨c,j,none⟩) hk).trans (h.free j hj)
theorem MC.put {w wr w':World}{L:List av}{f:BA→Option Value}{x:av}(h:MC w wr L f)(hx:f x.path=none∨f x.path=some (Ba x))(hm:aX w' (w.heap.size+1) (L.length+1) (fun s=>if s=x.path then some (Ba x) else f s))(hg:wr.grownBy w' (some (w.heap.size+1))):MC w w' (L++[x]) (fun s=>if s=x.path then some (Ba x) else f s):=
 ⟨⟨h.rc.bel.grown hg h.rc.bel.size (fun j hj=>by injection hj with hj;omega),h.rc.res.grownC hg (by omega)⟩,by rw[List.length_append];exact hm,h.inv.put x hx,Nat.le_trans h.sz hg.size⟩
theorem MC.look {w wr:World}{L:List av}{f:BA→Option Value}(h:MC w wr L f)(s:BA)(hs:s.size≤maxLen):
  ∃ (z:av) (b:Bool),(Instr.lookup 81 (.map (some (w.heap.size+1))) (.string s) true).run Tryz.prog wr=.ok (.tuple #[.agg #[.int .i64 z.kind,.int .i64 z.mode,.string z.owner,.string z.group,.string z.link],.bool b]) wr∧(b=false→f s=none)∧(b=true→f s=some (Ba z)):=by
 have hl:=h.map.look_ok Tryz.underlying81 Ai s hs
 cases hf:f s with
 | none=>
  rw[hf] at hl
  exact⟨⟨⟨#[]⟩,0,0,⟨#[]⟩,⟨#[]⟩,⟨#[]⟩,⟨#[]⟩,false⟩,false,hl,fun _=>rfl,(fun h=>by cases h)⟩
 | some v=>
  rw[hf] at hl
  obtain⟨⟨y,hy,hp⟩,h2⟩:=h.inv.mem s v hf
  have hv:=h2 y hy hp
  subst hv
  exact⟨y,true,hl,(fun h=>by cases h),fun _=>rfl⟩
theorem pC {tmps:Array Value}{w w2:World}(h:RC w w2)(ht:tmps[4]?=some (.pointer (some ⟨w.heap.size,0,none⟩)))(a b:BA)(c:Int):
  (results Tryz.f12 tmps).run Tryz.prog (((w2.setCell ⟨w.heap.size,0,none⟩ (.string a)).setCell ⟨w.heap.size,1,none⟩ (.string b)).setCell ⟨w.heap.size,2,none⟩ (.int .i64 c)) =
   .ok (.agg #[.string a,.string b,.int .i64 c]) (((w2.setCell ⟨w.heap.size,0,none⟩ (.string a)).setCell ⟨w.heap.size,1,none⟩ (.string b)).setCell ⟨w.heap.size,2,none⟩ (.int .i64 c)):=by
 obtain⟨r0,r1,r2,fr0,fr1,fr2⟩:=h.six
 simp[results,Tryz.results12,ht,go_sem,r0,r1,r2]
theorem tQ (fmt:Int)(F:bJ→BA×Int)(A:OA)(c:Nat)(l:List bJ)(w:World)(hG:Gl w)(hd:oO w A l)(hl:l.length≤100000)(hwd:lJ l≤10000000)(hs:∀ p∈l,p.files.length≤1000000∧∀ x∈p.files,x.path.size≤1000000)(hC:∀ p∈l,∀ W,Below w.heap.size w W→p.ok W→Calls Tryz.prog 30 #[.int .i64 fmt,p.val] W fun e w'=>e=.returned (MG p.nm (F p))∧Below W.heap.size W w')(hFZ:∀ p∈l,(F p).2=0→(cM fmt p.files).2=0):
  Calls Tryz.prog 12 #[.int .i64 fmt,.slice A l.length c] w fun e w'=>e=.returned (Nt (yn F (jg fmt) l))∧Below w.heap.size w w':=by
 have HG:=ae hG;have HD:=ae hd;have HS:=ae hs;have HCP:=ae hC;have HFZ:=ae hFZ;have HWD:=ae hwd
 clear hG hd hs hwd hC hFZ
 have R0:=ae (RC.start w)
 obtain⟨W0,hW0⟩:∃ W0,w.alloc (.cells #[.string ⟨#[]⟩,.string ⟨#[]⟩,.int .i64 0] 30)=W0:=⟨_,rfl⟩
 have R0':Hid (RC w W0):=by show RC w W0;rw[←hW0];exact R0.out
 have M0:Hid (MC w (W0.alloc (.map #[] 0)) [] (fun _=>none)):=by show MC _ _ _ _;rw[←hW0];exact MC.start w
 have Z0:Hid (W0.heap.size=w.heap.size+1):=by show _=_;rw[←hW0];simp
 have hI:=fun W=>kG fmt W
 cases hfm:jg fmt with
 | false=>
  have E:Hid (Nt (yn F false l)=_):=JM rfl
  obtain⟨r0,r1,r2,fr0,fr1,fr2⟩:=R0'.out.six
  rw[hfm] at hI
  clear hfm R0
  go_enter Tryz.func12,Tryz.ntmps12
  go_wp2_with fail
  refine(hI _).mono ?_;rintro e w' ⟨rfl,rfl⟩
  go_wp2_with fail
  exact bodyPost_ret (pC R0'.out rfl _ _ _) rfl ⟨by rw[E.out],R0'.out.done _ _ _⟩
 | true=>
 rw[hfm] at hI
 clear hfm R0
 by_cases h128:128<l.length
 ·have d8:decide ((128:Int)<l.length)=true:=dT (by omega)
  have d8n:decide (128<l.length)=true:=dT h128
  have E:Hid (Nt (yn F true l)=_):=GQ rfl h128
  obtain⟨r0,r1,r2,fr0,fr1,fr2⟩:=R0'.out.six
  clear h128
  go_enter Tryz.func12,Tryz.ntmps12
  go_wp2_with fail
  refine(hI _).mono ?_;rintro e w' ⟨rfl,rfl⟩
  go_wp2_with fail
  exact bodyPost_ret (pC R0'.out rfl _ _ _) rfl ⟨by rw[E.out],R0'.out.done _ _ _⟩
 have d8:decide ((128:Int)<l.length)=false:=dF (by omega)
 have d8n:decide (128<l.length)=false:=dF h128
 have E0:Hid (yn F true l=uv F [] l):=Ah rfl h128
 clear h128 R0'
 rw[E0.out]
 have hmm:=@run_makeMap Tryz.prog
 go_enter Tryz.func12,Tryz.ntmps12
 go_wp2_with fail
 refine(hI _).mono ?_;rintro e w' ⟨rfl,rfl⟩
 go_wp2_with fail
 clear hmm hW0 d8 d8n hI
 rw[Z0.out]
 go_loopw [25] (fun i wr=>∃ (k:Nat) (f:BA→Option Value),k≤l.length∧i=.int .i64 k∧Hid (uv F [] l=uv F (l.take k) (l.drop k))∧Hid (MC w wr (jh l k []) f)) (fun i _=>l.length-(intOf i).toNat)
 case atStart=>exact⟨0,_,z0,rfl,rfl,ae (by simpa [jh] using M0.out)⟩
 case round=>
  clear M0 Z0
  obtain⟨k,f,hk,rfl,HE,HR⟩:=hrel
  by_cases hlt:k<l.length
  ·obtain⟨p,hp⟩:∃ p,l[k]?=some p:=⟨_,gG hlt⟩
   have hpm:p∈l:=gM hp
   have HP:=ae hp;have HPM:=ae hpm
   clear hp hpm
   obtain⟨b,off,hA,he⟩:=(HD.out.row.below HR.out.rc.bel).elem oP k p HP.out
   obtain⟨e0,e1,e2,e3,e4,e5,e6,e7,e8⟩:=Pg he
   have hix:=fun W=>aI (T:=22) (E:=39) (sz:=9) (c:=c) Tryz.underlying22 rfl Tryz.sizeOf39 hA hlt W
   have HA:=ae hA
   clear hA he
   have Ra:=ae (HR.out.step (bR.alloc lr (.cells #[.string p.nm,.string p.ver,.string p.ar,.string p.sm,.slice p.na p.needs.length p.nc,.slice p.ba p.bars.length p.bc,.slice p.ga p.gives.length p.gc,.slice p.fa p.files.length p.fc,.slice p.sa p.scripts.length p.sc] 39)))
   have Ka:=ae (ax.new wr p.cells 39)
   obtain⟨W1,hW1⟩:∃ W1,wr.alloc (.cells #[.string p.nm,.string p.ver,.string p.ar,.string p.sm,.slice p.na p.needs.length p.nc,.slice p.ba p.bars.length p.bc,.slice p.ga p.gives.length p.gc,.slice p.fa p.files.length p.fc,.slice p.sa p.scripts.length p.sc] 39)=W1:=⟨_,rfl⟩
   have Rb:Hid (MC w W1 (jh l k []) f):=by show MC _ W1 _ _;rw[←hW1];exact Ra.out
   have Kb:Hid (ax W1 wr.heap.size p.cells):=by show ax W1 _ _;rw[←hW1];exact Ka.out
   have k0:=Kb.out.cell 0 _ rfl
   have k1:=Kb.out.cell 1 _ rfl
   have k2:=Kb.out.cell 2 _ rfl
   have k3:=Kb.out.cell 3 _ rfl
   have k4:=Kb.out.cell 4 _ rfl
   have k5:=Kb.out.cell 5 _ rfl
   have k6:=Kb.out.cell 6 _ rfl
   have k7:=Kb.out.cell 7 _ rfl
   have k8:=Kb.out.cell 8 _ rfl
   clear Ra Ka
   have HC:=ae fun (W:World) (g:Below w.heap.size w W) (h:p.ok W)=>HCP.out p HPM.out W g h
   obtain⟨⟨what,code⟩,hr⟩:∃ r,F p=r:=⟨_,rfl⟩
   have HQ:=ae hr;clear hr
   rw[HQ.out] at HC
   by_cases hc:¬ code=0
   ·rw[JK _ _ hc] at HC
    have q1:(code != 0)=true:=by simp[hc]
    have E:Hid (uv F [] l=(p.nm,what,code)):=by
     have h1:=Mb (pre:=l.take k) (p:=p) (ans:=(what,code)) hc
     show _=_
     rw[xJ HP.out HE.out (by rw[HQ.out,h1];exact hc),HQ.out,h1]
    clear hc
    go_wp2_with fail
    refine(HC.out W1 Rb.out.rc.bel ((HD.out.all p HPM.out).below Rb.out.rc.bel)).mono ?_;rintro e w1 ⟨rfl,hb1⟩
    have R1:=ae ((Rb.out.step hb1).rc.alloc (.cells #[.string p.nm,.string what,.int .i64 code] 30))
    have K1:=ae (ax.new w1 [.string p.nm,.string what,.int .i64 code] 30)
    clear hb1 e0 e1 e2 e3 e4 e5 e6 e7 e8 hix k0 k1 k2 k3 k4 k5 k6 k7 k8 hW1
    obtain⟨W2,hW2⟩:∃ W2,w1.alloc (.cells #[.string p.nm,.string what,.int .i64 code] 30)=W2:=⟨_,rfl⟩
    have R1':Hid (RC w W2):=by show RC w W2;rw[←hW2];exact R1.out
    have K1':Hid (ax W2 w1.heap.size [.string p.nm,.string what,.int .i64 code]):=by show ax W2 _ _;rw[←hW2];exact K1.out
    have k0:=K1'.out.cell 0 _ rfl
    have k1:=K1'.out.cell 1 _ rfl
    have k2:=K1'.out.cell 2 _ rfl
    obtain⟨r0,r1,r2,fr0,fr1,fr2⟩:=R1'.out.six
    clear R1 K1
    go_wp2_with fail
    exact bodyPost_ret (pC R1'.out rfl _ _ _) rfl ⟨by rw[E.out];rfl,R1'.out.done _ _ _⟩
   obtain rfl:code=0:=Decidable.not_not.1 hc
   clear hc
   rw[JJ] at HC
   have A0:Hid ((F p).2=0):=by show _=_;rw[HQ.out]
   go_wp2_with fail
   clear hW1
   refine(HC.out W1 Rb.out.rc.bel ((HD.out.all p HPM.out).below Rb.out.rc.bel)).mono ?_;rintro e w1 ⟨rfl,hb1⟩
   have R1:=ae ((Rb.out.step hb1).step (bR.alloc lr (.cells #[.string ⟨#[]⟩,.string ⟨#[]⟩,.int .i64 0] 30)))
   have K1:=ae ((Kb.out.below hb1).alloc (.cells #[.string ⟨#[]⟩,.string ⟨#[]⟩,.int .i64 0] 30))
   have HPB:Hid (w.heap.size+2≤wr.heap.size):=HR.out.sz
   clear hb1 e0 e1 e2 e3 e4 e5 e6 e7 e8 k0 k1 k2 k3 k4 k5 k6 k7 k8 HC hix Rb Kb HR
   generalize wr.heap.size=pb at *
   go_upto_region 12 with(fail)
   obtain⟨W2,hW2⟩:∃ W2,w1.alloc (.cells #[.string ⟨#[]⟩,.string ⟨#[]⟩,.int .i64 0] 30)=W2:=⟨_,rfl⟩
   have R1':Hid (MC w W2 (jh l k []) f):=by show MC _ W2 _ _;rw[←hW2];exact R1.out
   have K1':Hid (ax W2 pb p.cells):=by show ax W2 _ _;rw[←hW2];exact K1.out
   rw[hW2]
   clear R1 K1 hW2
   go_cut [49] (fun s49 wx=>∃ bb:Bool,s49=.bool bb∧Hid (bb=!lB l k p)∧Hid (MC w wx (jh l k []) f)∧Hid (ax wx pb p.cells))
   case first=>
    by_cases k0:k=0
    ·have k0':decide (0<(k:Int))=false:=dF (by omega)
     have k0n:decide (0<k)=false:=dF (by omega)
     have OB:Hid (false=!lB l k p):=by show _=_;rw[k0,GM];rfl
     clear k0
     go_quiet (fail)
     go_wp2_with fail
     go_meet
     exact⟨false,rfl,OB,R1'.out.step (an bR _),K1'.out.drewN _⟩
    ·have k0':decide (0<(k:Int))=true:=dT (by omega)
     have k0n:decide (0<k)=true:=dT (by omega)
     have kpos:0<k:=by omega
     obtain⟨q,hq⟩:∃ q,l[k-1]?=some q:=⟨_,gG (by omega)⟩
     obtain⟨b2,off2,hA2,he2⟩:=(HD.out.row.below R1'.out.rc.bel).elem oP (k-1) q hq
     have n0:=K1'.out.cell 0 _ rfl
     have p0:=he2 0 _ rfl
     simp only[Nat.add_zero] at p0
     have hixp:=fun W=>ra (T:=22) (E:=39) (sz:=9) (c:=c) (i:=(k:Int)-1) Tryz.underlying22 rfl Tryz.sizeOf39 (by omega) hA2 (show k-1<l.length by omega) W
     have OB:Hid ((Op.bytesLess p.nm.toList q.nm.toList||p.nm.toList==q.nm.toList)=!lB l k p):=by
      show _=_
      have:=GN (l:=l) (k:=k-1) p hq
      rw[show k-1+1=k by omega] at this
      rw[this];exact JF p.nm q.nm
     have iw:IntKind.i64.wrap ((k:Int)-1)=(k:Int)-1:=IntWalk.i64_in _ (by omega)
     clear hq he2 hA2 k0
     go_quiet (fail)
     go_wp2_with fail
     go_meet
     exact⟨_,rfl,OB,R1'.out.step (an bR _),K1'.out.drewN _⟩
   case rest=>
   clear R1' K1'
   obtain⟨bb,rfl,HOB,HR2,HK2⟩:=hcut
   cases bb
   case true=>
    have HO:Hid (lB l k p=false):=by have:=HOB.out;show _=_;revert this;cases lB l k p<;>simp
    have E:Hid (uv F [] l=(p.nm,⟨#[110,97,109,101]⟩,15)):=by
     have h1:=Mc (ans:=F p) A0.out HO.out
     show _=_
     rw[xJ HP.out HE.out (by rw[h1];simp),h1]
    have n0:=HK2.out.cell 0 _ rfl
    obtain⟨r0,r1,r2,fr0,fr1,fr2⟩:=HR2.out.rc.six
    go_wp2_with fail
    exact bodyPost_ret (pC HR2.out.rc rfl _ _ _) rfl ⟨by rw[E.out];rfl,HR2.out.rc.done _ _ _⟩
   have HO:Hid (lB l k p=true):=by have:=HOB.out;show _=_;revert this;cases lB l k p<;>simp
   clear HOB
   have SRT:Hid ((bg p.files).Pairwise (fun s t=>bl s<bl t)):=Af (fmt:=fmt) (HFZ.out p HPM.out A0.out)
   have fl:=(HS.out p HPM.out).1
   have n7:=HK2.out.cell 7 _ rfl
   go_wp2_with fail
   clear n7
   go_loopw [56] (fun i wr=>∃ (m:Nat) (f:BA→Option Value),m≤p.files.length∧i=.int .i64 m∧Hid (∀ y∈p.files.take m,conf (l.take k) y=false)∧Hid (MC w wr (jh l k (p.files.take m)) f)∧Hid (ax wr pb p.cells)) (fun i _=>p.files.length-(intOf i).toNat)
   case atStart=>exact⟨0,f,z0,rfl,by simp[Hid],HR2,HK2⟩
   case round=>
    clear HR2 HK2
    obtain⟨m,f,hm,rfl,HN,HR,HK⟩:=hrel
    by_cases hml:m<p.files.length
    ·obtain⟨x,hx⟩:∃ x,p.files[m]?=some x:=⟨_,gG hml⟩
     have HXS:Hid (x.path.size≤maxLen):=by
      have:=((HS.out p HPM.out).2 x (gM hx))
      show _≤_;unfold maxLen;omega
     obtain⟨b',off',hA',he'⟩:=((HD.out.all p HPM.out).below HR.out.rc.bel).files.elem iD m x hx
     obtain⟨f0,f1,f2,f3,f4,f5,f6,f7⟩:=OD he'
     have hix':=fun W=>aI (T:=36) (E:=42) (sz:=8) (c:=p.fc) Tryz.underlying36 rfl Tryz.sizeOf42 hA' hml W
     have HX:=ae hx
     clear hx hA' he'
     obtain⟨W3,hW3⟩:∃ W3,wr.alloc (.cells #[.string x.path,.int .i64 x.kind,.int .i64 x.mode,.string x.owner,.string x.group,.string x.link,.string x.sum,.bool x.conf] 42)=W3:=⟨_,rfl⟩
     have B3:Hid (Below wr.heap.size wr W3):=by rw[←hW3];exact bR.alloc lr _
     have K3:Hid (ax W3 wr.heap.size x.cells):=by rw[←hW3];exact ax.new wr x.cells _
     obtain⟨W4,hW4⟩:∃ W4,W3.alloc (.cells #[.int .i64 x.kind,.int .i64 x.mode,.string x.owner,.string x.group,.string x.link] 84)=W4:=⟨_,rfl⟩
     have B4:Hid (Below W3.heap.size W3 W4):=by rw[←hW4];exact bR.alloc lr _
     have S4:Hid (ax W4 W3.heap.size [.int .i64 x.kind,.int .i64 x.mode,.string x.owner,.string x.group,.string x.link]):=by rw[←hW4];exact ax.new W3 [.int .i64 x.kind,.int .i64 x.mode,.string x.owner,.string x.group,.string x.link] _
     have M4:=ae ((HR.out.step B3.out).step B4.out)
     have P4:=ae ((HK.out.below B3.out).below B4.out)
     have X4:=ae (K3.out.below B4.out)
     obtain⟨z,there,hlk,hz1,hz2⟩:=M4.out.look x.path HXS.out
     have HZ1:=ae hz1;have HZ2:=ae hz2
     clear hz1 hz2
     have g0:=K3.out.cell 0 _ rfl
     have g1:=K3.out.cell 1 _ rfl
     have g2:=K3.out.cell 2 _ rfl
     have g3:=K3.out.cell 3 _ rfl
     have g4:=K3.out.cell 4 _ rfl
     have g5:=K3.out.cell 5 _ rfl
     have v0:=X4.out.cell 0 _ rfl
     obtain⟨W5,hW5⟩:∃ W5,W4.alloc (.cells #[.int .i64 z.kind,.int .i64 z.mode,.string z.owner,.string z.group,.string z.link] 84)=W5:=⟨_,rfl⟩
     have B5:Hid (Below W4.heap.size W4 W5):=by rw[←hW5];exact bR.alloc lr _
     have Z5:Hid (ax W5 W4.heap.size [.int .i64 z.kind,.int .i64 z.mode,.string z.owner,.string z.group,.string z.link]):=by rw[←hW5];exact ax.new W4 [.int .i64 z.kind,.int .i64 z.mode,.string z.owner,.string z.group,.string z.link] _
     go_upto_region 19 with(fail)
     have M5:=ae (M4.out.step B5.out)
     have P5:=ae (P4.out.below B5.out)
     have X5:=ae (X4.out.below B5.out)
     have S5:=ae (S4.out.below B5.out)
     have HXB:Hid (w.heap.size+2≤wr.heap.size∧pb<wr.heap.size):=⟨HR.out.sz,HK.out.sz⟩
     clear f0 f1 f2 f3 f4 f5 f6 f7 g0 g1 g2 g3 g4 g5 v0 hix' hlk hW3 hW4 hW5 M4 P4 X4 S4 B3 B4 B5 K3 HR HK
     generalize wr.heap.size=xb at *
     generalize W3.heap.size=sb at *
     generalize W4.heap.size=zb at *
     go_cut [83] (fun s83 wx=>∃ bb:Bool,s83=.bool bb∧Hid (bb=conf (l.take k) x)∧Hid (bb=false→f x.path=none∨f x.path=some (Ba x))∧wx=W5)
     case first=>
      have nq:=fun W=>C7 z x W
      have u0:=Z5.out.cell 0 _ rfl
      have u1:=Z5.out.cell 1 _ rfl
      have u2:=Z5.out.cell 2 _ rfl
      have u3:=Z5.out.cell 3 _ rfl
      have u4:=Z5.out.cell 4 _ rfl
      have v0:=S5.out.cell 0 _ rfl
      have v1:=S5.out.cell 1 _ rfl
      have v2:=S5.out.cell 2 _ rfl
      have v3:=S5.out.cell 3 _ rfl
      have v4:=S5.out.cell 4 _ rfl
      cases there
      ·have C0:Hid (false=conf (l.take k) x):=(M5.out.inv.fresh (HZ1.out (by trivial))).symm
       go_wp2_with fail
       go_meet
       exact⟨false,rfl,C0,fun _=>.inl (HZ1.out (by trivial)),rfl⟩
      ·cases hzx:lA z x
       ·have C0:Hid (true=conf (l.take k) x):=(M5.out.inv.other (HZ2.out (by trivial)) (fun e=>by rw[(kr z x).2 e] at hzx;cases hzx) (GP SRT.out HX.out)).symm
        rw[hzx] at nq
        clear hzx
        go_wp2_with fail
        go_meet
        exact⟨true,rfl,C0,(fun h=>by cases h),rfl⟩
       ·have C1:Hid (f x.path=some (Ba x)):=by show _=_;rw[HZ2.out (by trivial),(kr z x).1 hzx]
        have C0:Hid (false=conf (l.take k) x):=(M5.out.inv.same C1.out).symm
        rw[hzx] at nq
        clear hzx
        go_wp2_with fail
        go_meet
        exact⟨false,rfl,C0,fun _=>.inr C1.out,rfl⟩
     case rest=>
     obtain⟨bb,rfl,HCF,HFX,rfl⟩:=hcut
     have x0:=X5.out.cell 0 _ rfl
     cases bb
     case true=>
      have E:Hid (uv F [] l=(p.nm,x.path,8)):=by
       have h1:=JH (ans:=F p) A0.out HO.out HX.out HN.out HCF.out.symm
       show _=_
       rw[xJ HP.out HE.out (by rw[h1];simp),h1]
      have n0:=P5.out.cell 0 _ rfl
      obtain⟨r0,r1,r2,fr0,fr1,fr2⟩:=M5.out.rc.six
      go_wp2_with fail
      exact bodyPost_ret (pC M5.out.rc rfl _ _ _) rfl ⟨by rw[E.out];rfl,M5.out.rc.done _ _ _⟩
     have v0:=S5.out.cell 0 _ rfl
     have v1:=S5.out.cell 1 _ rfl
     have v2:=S5.out.cell 2 _ rfl
     have v3:=S5.out.cell 3 _ rfl
     have v4:=S5.out.cell 4 _ rfl
     have hcl:=Ac l k p m HP.out
     have HWL:Hid (lJ l≤10000000):=HWD
     obtain⟨w6,hrun6,hm6,hg6⟩:=M5.out.map.put Tryz.underlying81 (by have:=HWL.out;unfold maxLen;omega) x.path HXS.out (Ba x)
     have M6:=ae (M5.out.put (HFX.out rfl) hm6 hg6)
     have P6:=ae (P5.out.grownC hg6 (by have:=HPB.out;omega))
     unfold Ba at hrun6
     clear hm6 hg6 hcl
     go_wp2_with fail
     clear hrun6 v0 v1 v2 v3 v4 x0
     go_roundw
     case rel=>exact⟨m+1,_,by omega,by go_num,ae (fun z hz=>by
      obtain⟨hk',hf'⟩:=gS HX.out
      rw[tS hk',hf'] at hz
      rcases List.mem_append.1 hz with hz | hz
      ·exact HN.out z hz
      ·rw[List.mem_singleton.1 hz];exact HCF.out.symm),ae (by rw[GO l k HX.out];exact M6.out),P6⟩
     case measure=>simp[intOf];omega
    ·have F:Hid ((CZ (F p) (l.take k) p).2.2=0):=by
      show _=_
      rw[JI A0.out HO.out (fun y hy=>HN.out y (by rw[tL (by omega)];exact hy))]
     have CN:Hid (jh l (k+1) []=jh l k (p.files.take m)):=by show _=_;rw[wl HP.out,tL (by omega)]
     go_wp2_with fail
     go_roundw
     case rel=>exact⟨k+1,f,by omega,by go_num,ae (JG HP.out HE.out F.out),ae (by rw[CN.out];exact HR.out)⟩
     case measure=>simp[intOf];omega
  ·have E:=ae (Ma (ans:=F) (l:=l) (k:=k) (by omega) HE.out)
   obtain⟨r0,r1,r2,fr0,fr1,fr2⟩:=HR.out.rc.six
   go_wp2_with fail
   exact bodyPost_ret (pC HR.out.rc rfl _ _ _) rfl ⟨by rw[E.out];rfl,HR.out.rc.done _ _ _⟩
end
end Go.Proofs.YtaohgmcbpafdeaaGreatDoor
