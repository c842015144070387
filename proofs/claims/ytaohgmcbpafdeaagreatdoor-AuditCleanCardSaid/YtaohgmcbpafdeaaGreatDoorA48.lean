/- A part of the proof. -/
import Derived.Test.YtaohgmcbpafdeaaGreatDoorA47
set_option maxRecDepth 100000
set_option maxHeartbeats 20000000
set_option linter.unusedVariables false
set_option linter.unusedSimpArgs false
namespace Go.Proofs.YtaohgmcbpafdeaaGreatDoor
section
open Go.RowKit Go.Maps Go.Shelf
theorem Ph:AO [1] [fA,fB]=false:=by rfl
theorem Pi:AO [5,1] [fA,fB]=true:=by rfl
theorem Eu (w:World)(l:List Int)(t:TypeId):Rd (w.alloc (.cells (xW l).toArray t)) 1 (some ⟨w.heap.size,0,none⟩) l.length (xW l):=
 ⟨by simp[xW],fun _=>⟨_,0,rfl,fun j u hu=>by simpa using(ax.new w (xW l) t).cell j u hu⟩⟩
theorem AP (w:World)(hG:BV w)(hT:rn w):Calls Tryz.prog 4 #[] w fun e w'=>e=.returned (.bool true)∧Below w.heap.size w w':=by
 have HG:=ae hG
 have HT:=ae hT
 clear hG hT
 obtain⟨W1,hW1⟩:∃ W1,w.alloc (.cells #[.string ⟨#[97]⟩,.int .i64 2,.int .i64 0,.string ⟨#[114,111,111,116]⟩,.string ⟨#[114,111,111,116]⟩,.string ⟨#[]⟩,.string ⟨#[]⟩,.bool false] 42)=W1:=⟨_,rfl⟩
 obtain⟨W2,hW2⟩:∃ W2,W1.alloc (.cells #[.string ⟨#[97,97]⟩,.string ⟨#[49,45,49]⟩,.string ⟨#[97,108,108]⟩,.string ⟨#[115]⟩,.slice none 0 0,.slice none 0 0,.slice none 0 0,.slice (some ⟨w.heap.size,0,none⟩) 1 1,.slice none 0 0] 39)=W2:=⟨_,rfl⟩
 obtain⟨W3,hW3⟩:∃ W3,W2.alloc (.cells #[.string ⟨#[97,97]⟩,.string ⟨#[49,45,49]⟩,.string ⟨#[97,108,108]⟩,.string ⟨#[115]⟩,.slice none 0 0,.slice none 0 0,.slice none 0 0,.slice (some ⟨w.heap.size,0,none⟩) 1 1,.slice none 0 0] 39)=W3:=⟨_,rfl⟩
 obtain⟨W4,hW4⟩:∃ W4,W3.alloc (.cells #[.string ⟨#[98]⟩,.int .i64 1,.int .i64 0,.int .i64 0,.int .i64 0,.string ⟨#[]⟩,.string ⟨#[]⟩,.int .i64 0,.string ⟨#[]⟩,.slice none 0 0] 45)=W4:=⟨_,rfl⟩
 obtain⟨W5,hW5⟩:∃ W5,W4.alloc (.cells #[.string ⟨#[]⟩] 9)=W5:=⟨_,rfl⟩
 have b1:ax W1 w.heap.size eR.cells:=by rw[←hW1];exact ax.new w eR.cells _
 have l1:Below w.heap.size w W1:=by rw[←hW1];exact bR.alloc lr _
 have l2:Below W1.heap.size W1 W2:=by rw[←hW2];exact bR.alloc lr _
 have b3:ax W3 W2.heap.size (gB w.heap.size).cells:=by rw[←hW3];exact ax.new W2 (gB w.heap.size).cells _
 have l3:Below W2.heap.size W2 W3:=by rw[←hW3];exact bR.alloc lr _
 have b4:ax W4 W3.heap.size eB.cells:=by rw[←hW4];exact ax.new W3 eB.cells _
 have l4:Below W3.heap.size W3 W4:=by rw[←hW4];exact bR.alloc lr _
 have b5:ax W5 W4.heap.size [.string ⟨#[]⟩]:=by rw[←hW5];exact ax.new W4 [.string ⟨#[]⟩] _
 have l5:Below W4.heap.size W4 W5:=by rw[←hW5];exact bR.alloc lr _
 have s1:W1.heap.size=w.heap.size+1:=by rw[←hW1];simp
 have s2:W2.heap.size=w.heap.size+1+1:=by rw[←hW2];simp[s1]
 have s3:W3.heap.size=w.heap.size+1+1+1:=by rw[←hW3];simp[s2]
 have s4:W4.heap.size=w.heap.size+1+1+1+1:=by rw[←hW4];simp[s3]
 have L5:=ae (aq (aq (aq (aq l1 l2) l3) l4) l5)
 have F5:ax W5 w.heap.size eR.cells:=(((b1.below l2).below l3).below l4).below l5
 have P5b:ax W5 (w.heap.size+1+1) (gB w.heap.size).cells:=s2 ▸ (b3.below l4).below l5
 have E5b:ax W5 (w.heap.size+1+1+1) eB.cells:=s3 ▸ b4.below l5
 have R5b:ax W5 (w.heap.size+1+1+1+1) [.string ⟨#[]⟩]:=s4 ▸ b5
 have D5:Hid (oO W5 (some ⟨w.heap.size+1+1,0,none⟩) [gB w.heap.size]):=N5 F5 P5b
 have E5:Hid (dz W5 (some ⟨w.heap.size+1+1+1,0,none⟩) [eB]):=⟨xY (vs:=eB.cells) E5b rfl,fun x hx=>by rw[List.mem_singleton.1 hx];exact Rd.nil _ _ _⟩
 have R5:Hid (W5.cell? ⟨w.heap.size+1+1+1+1,0,none⟩=some (.string ⟨#[]⟩)):=R5b.cell 0 _ rfl
 have HW:Hid (((((w.alloc (.cells #[.string ⟨#[97]⟩,.int .i64 2,.int .i64 0,.string ⟨#[114,111,111,116]⟩,.string ⟨#[114,111,111,116]⟩,.string ⟨#[]⟩,.string ⟨#[]⟩,.bool false] 42)).alloc (.cells #[.string ⟨#[97,97]⟩,.string ⟨#[49,45,49]⟩,.string ⟨#[97,108,108]⟩,.string ⟨#[115]⟩,.slice none 0 0,.slice none 0 0,.slice none 0 0,.slice (some ⟨w.heap.size,0,none⟩) 1 1,.slice none 0 0] 39)).alloc (.cells #[.string ⟨#[97,97]⟩,.string ⟨#[49,45,49]⟩,.string ⟨#[97,108,108]⟩,.string ⟨#[115]⟩,.slice none 0 0,.slice none 0 0,.slice none 0 0,.slice (some ⟨w.heap.size,0,none⟩) 1 1,.slice none 0 0] 39)).alloc (.cells #[.string ⟨#[98]⟩,.int .i64 1,.int .i64 0,.int .i64 0,.int .i64 0,.string ⟨#[]⟩,.string ⟨#[]⟩,.int .i64 0,.string ⟨#[]⟩,.slice none 0 0] 45)).alloc (.cells #[.string ⟨#[]⟩] 9)=W5):=by
  show _=_
  rw[hW1,hW2,hW3,hW4,hW5]
 clear F5 P5b E5b R5b b1 l1 l2 b3 l3 b4 l4 b5 l5 s1 s2 s3 s4 hW1 hW2 hW3 hW4 hW5
 go_enter Tryz.func4,Tryz.ntmps4
 go_wp2_with fail
 rw[HW.out]
 clear HW
 have AU:Calls Tryz.prog 6 #[.int .i64 1,.slice (some ⟨w.heap.size+1+1,0,none⟩) 1 1,.slice (some ⟨w.heap.size+1+1+1,0,none⟩) 1 1,.slice (some ⟨w.heap.size+1+1+1+1,0,none⟩) 1 1] W5 (Es 1 [gB w.heap.size] [eB] W5):=
  pL 1 (some ⟨w.heap.size+1+1,0,none⟩) 1 [gB w.heap.size] (some ⟨w.heap.size+1+1+1,0,none⟩) 1 [eB] (w.heap.size+1+1+1+1) 0 1 W5 (HG.out.below L5.out) (HT.out.below L5.out) D5.out E5.out R5.out
    (by show (1:Nat)≤100000;decide) (by have:lJ [gB w.heap.size]=lJ [gB 0]:=rfl;rw[this];decide) (by intro p hp;rw[List.mem_singleton.1 hp];have:jB (gB w.heap.size)=jB (gB 0):=rfl;rw[this];decide) (by rw[OU];decide) (by show (1:Nat)≤10000;decide)
   (by intro p hp;rw[List.mem_singleton.1 hp];exact Ho _) (by show (1:Nat)≤100000;decide) (by intro x hx;rw[List.mem_singleton.1 hx];exact⟨by decide,by decide,by decide,by decide,by decide,by decide,by decide⟩)
 refine AU.mono ?_;rintro e w6 ⟨Ag,cap,l,r0,r1,r2,rfl,hb6,hrd,_,hr2,_,h0⟩
 rw[N7] at hr2
 subst hr2
 obtain⟨⟨rfl,rfl⟩,_,hn,hp,hm,_⟩:=h0 rfl
 have hl:=N8 hn hp (fun x=>(hm x).trans (Mp _ x))
 subst hl
 have L6:=ae (aq L5.out hb6)
 obtain⟨g,go,hAg,_⟩:=hrd.2 (by decide)
 subst hAg
 have RF6:Hid (Rd w6 2 (some ⟨g,go,none⟩) 2 ([fA,fB].flatMap wP)):=hrd
 clear hb6 hrd h0 hn hp hm AU D5 E5 R5 L5
 obtain⟨W7,hW7⟩:∃ W7,w6.alloc (.cells #[.string ⟨#[]⟩,.string ⟨#[]⟩,.int .i64 0] 30)=W7:=⟨_,rfl⟩
 have L67:Hid (Below w6.heap.size w6 W7):=by show Below _ _ _;rw[←hW7];exact bR.alloc lr _
 have B7:Hid (ax W7 w6.heap.size KY):=by show ax _ _ _;rw[←hW7];exact ax.new w6 KY _
 have L7:=ae (aq L6.out L67.out)
 have RF7:=ae (RF6.out.below L67.out)
 have HW7:=ae hW7
 clear hW7 L6 L67 RF6
 have i0:∀ W,(Instr.indexAt 27 (.slice (some ⟨g,go,none⟩) 2 cap) (.int .i64 0)).run Tryz.prog W=.ok (.pointer (some ⟨g,go,none⟩)) W:=fun W=>by
  have:=aI (T:=27) (E:=34) (sz:=2) (n:=2) (k:=0) (c:=cap) (A:=some ⟨g,go,none⟩) (off:=go) (b:=g) Tryz.underlying27 rfl Tryz.sizeOf34 rfl (by omega) W
  simpa using this
 have i1:∀ W,(Instr.indexAt 27 (.slice (some ⟨g,go,none⟩) 2 cap) (.int .i64 1)).run Tryz.prog W=.ok (.pointer (some ⟨g,go+2,none⟩)) W:=fun W=>by
  have:=aI (T:=27) (E:=34) (sz:=2) (n:=2) (k:=1) (c:=cap) (A:=some ⟨g,go,none⟩) (off:=go) (b:=g) Tryz.underlying27 rfl Tryz.sizeOf34 rfl (by omega) W
  simpa using this
 go_upto_region 3 with(fail)
 rw[HW7.out]
 clear HW7
 obtain⟨b,off,hA,he⟩:=RF7.out.2 (by omega)
 injection hA with hA;injection hA with hA1 hA2
 subst hA1;subst hA2
 have d0:W7.cell? ⟨g,go,none⟩=some (.string ⟨#[97]⟩):=by simpa using he 0 (.string ⟨#[97]⟩) rfl
 have d1:W7.cell? ⟨g,go+1,none⟩=some (.int .i64 1):=by simpa using he 1 (.int .i64 1) rfl
 have d2:W7.cell? ⟨g,go+2,none⟩=some (.string ⟨#[98]⟩):=by simpa using he 2 (.string ⟨#[98]⟩) rfl
 have d3:W7.cell? ⟨g,go+3,none⟩=some (.int .i64 5):=by simpa using he 3 (.int .i64 5) rfl
 have r0:W7.cell? ⟨w6.heap.size,0,none⟩=some (.string ⟨#[]⟩):=B7.out.cell 0 _ rfl
 have r1:W7.cell? ⟨w6.heap.size,1,none⟩=some (.string ⟨#[]⟩):=B7.out.cell 1 _ rfl
 have r2:W7.cell? ⟨w6.heap.size,2,none⟩=some (.int .i64 0):=B7.out.cell 2 _ rfl
 clear he
 have RI8:=ae (Eu W7 [1] 3)
 have L8:Hid (Below W7.heap.size W7 (W7.alloc (.cells (xW [1]).toArray 3))):=bR.alloc lr _
 have AD:=oK (some ⟨W7.heap.size,0,none⟩) (some ⟨g,go,none⟩) 1 cap [1] [fA,fB] _ RI8.out (RF7.out.below L8.out) (by decide) (by decide)
 rw[Ph] at AD
 go_wp2_with fail
 refine AD.mono ?_;rintro e w9 ⟨rfl,hb9⟩
 have L9:=ae (aq (aq L7.out L8.out) hb9)
 have RF9:=ae ((RF7.out.below L8.out).below hb9)
 clear hb9 AD RI8 L8 L7 RF7 d0 d1 d2 d3 r0 r1 r2 i0 i1 B7
 have RI10:=ae (Eu w9 [5,1] 3)
 have L10:Hid (Below w9.heap.size w9 (w9.alloc (.cells (xW [5,1]).toArray 3))):=bR.alloc lr _
 have AD:=oK (some ⟨w9.heap.size,0,none⟩) (some ⟨g,go,none⟩) 2 cap [5,1] [fA,fB] _ RI10.out (RF9.out.below L10.out) (by decide) (by decide)
 rw[Pi] at AD
 go_wp2_with fail
 refine AD.mono ?_;rintro e w11 ⟨rfl,hb11⟩
 have L11:=ae (aq (aq L9.out L10.out) hb11)
 clear hb11 AD
 go_wp2_with fail
 go_ret
 exact⟨rfl,L11.out⟩
end
end Go.Proofs.YtaohgmcbpafdeaaGreatDoor
