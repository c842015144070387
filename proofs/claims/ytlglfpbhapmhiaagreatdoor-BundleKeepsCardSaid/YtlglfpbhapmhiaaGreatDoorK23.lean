/- A part of the proof. -/
import Derived.Test.YtlglfpbhapmhiaaGreatDoorK22
set_option maxRecDepth 100000
set_option maxHeartbeats 20000000
set_option linter.unusedVariables false
set_option linter.unusedSimpArgs false
namespace Go.Proofs.YtlglfpbhapmhiaaGreatDoor
section
open Go.RowKit Go.Deep
theorem fV {w:World}{base b j:Nat}{e:TypeId}{size n c:Nat}{A:OA}{xs:LV}{v:Value}(h:w.ownsRow base e size (.slice A n c) n xs)(hb:b<base):(w.setCell ⟨b,j,none⟩ v).ownsRow base e size (.slice A n c) n xs:=by
 have hg:w.grownBy (w.setCell ⟨b,j,none⟩ v) (some b):=an (World.grownBy.refl w (some b)) (.inl rfl) _
 refine h.kept hg ?_
 cases hq:(Value.slice A n c).ownBlock with
 | none=>exact .inl rfl
 | some q=>right;intro he;injection he with he;have:=(h.lt q hq).1;omega
theorem Az (s:BA)(w:World)(hG:wn w)(hs:s.size≤4294967280):
  Calls Tryz.prog 127 #[.string s] w (Ax (gu (bl s)) w):=by
 obtain⟨i0,hi0,hz0,hz1,hz2⟩:=info_parts DS
 have HG:=ae hG;clear hG
 go_enter Tryz.func127,Tryz.ntmps127
 go_wp2_with fail
 go_loopw [4,5] (fun l p wr=>∃ (L:List fH) (A:OA) (n c k f:Nat),l=.slice A n c∧p=.int .i64 k∧k≤s.size∧n≤64∧Hid (tX w wr L A n c)∧Hid (gu (bl s)=kS (f+1) L ((bl s).drop k))∧Hid (s.size-k≤f)) (fun _ p _=>s.size-(intOf p).toNat)
 case atStart=>exact⟨[],none,0,0,0,s.size,rfl,rfl,z0,by omega,tX.start w,by show _=_;rw[List.drop_zero,←ah];exact Ag _,lr⟩
 case round=>
  obtain⟨L,A,n,c,k,f,rfl,rfl,hk,hn,HR,HN,HF⟩:=hrel
  by_cases hlt:k<s.size
  ·have HD:Hid ((bl s).drop k=s[k]::(bl s).drop (k+1)):=by
    show _=_;rw[List.drop_eq_getElem_cons (by rw[ah];exact hlt),jt s k hlt]
   obtain⟨d,hd⟩:∃ d:UInt8,s[k]=d:=⟨_,rfl⟩
   rw[hd] at HD
   by_cases hd32:d.toNat=32
   ·have hdd:d=32:=UInt8.toNat_inj.1 hd32
    have HN2:Hid (gu (bl s)=kS (f+1) L ((bl s).drop (k+1))):=by show _=_;rw[HN.out,HD.out,hdd,Ah]
    have HF2:Hid (s.size-(k+1)≤f):=by have:=HF.out;show _≤_;omega
    clear hdd
    go_wp2_with fail
    go_roundw
    case rel=>exact⟨L,A,n,c,k+1,f,rfl,by go_num,by omega,hn,HR,HN2,HF2⟩
    case measure=>simp[intOf];omega
   ·obtain⟨R,hR⟩:∃ R,s.extract k s.size=R:=⟨_,rfl⟩
    have hRb:bl R=(bl s).drop k:=by rw[←hR,cC]
    have hRz:R.size=s.size-k:=by rw[←ah,hRb,List.length_drop,ah]
    obtain⟨Wd,hWd⟩:∃ Wd,gf R ⟨#[32]⟩=Wd:=⟨_,rfl⟩
    have hWb:bl Wd=((bl s).drop k).take (aA dh ((bl s).drop k)):=by
     rw[←hWd,←hRb,←JE];unfold gf;rw[io];rfl
    have hink:dh (((bl s).drop k).headD 32)=true:=by
     rw[HD.out];simp only[List.headD_cons,dh];simp;intro e;exact hd32 (by rw[e];rfl)
    have hWz:Wd.size=aA dh ((bl s).drop k):=by
     rw[←ah,hWb,List.length_take];have:=eZ dh ((bl s).drop k);omega
    have hWp:0<Wd.size:=by
     rw[hWz,HD.out]
     have:dh d=true:=by rw[HD.out] at hink;exact hink
     simp[aA,this]
    have hWl:Wd.size≤s.size-k:=by
     rw[hWz];have:=eZ dh ((bl s).drop k);rw[List.length_drop,ah] at this;exact this
    have HK:=ae hink
    have HWB:=ae hWb
    have HWZ:=ae hWz
    clear hink hWb hWz hRb
    have hkk:(k:Int)≤(s.size:Int):=by omega
    go_wp2_with fail
    refine(bH R ⟨#[32]⟩ _ (HG.out.1.below HR.out.bel) (by omega)).mono ?_;rintro e w1 ⟨rfl,hb1⟩
    rw[hWd]
    have HR1:=ae (HR.out.below hb1)
    clear hb1 hWd hR
    by_cases h64:n=64
    ·have E:Hid (gu (bl s)=none):=by
      show _=_;rw[HN.out];exact Ai HK.out (by rw[HR1.out.len];exact h64)
     have h64':((n:Int)==64)=true:=by simp;omega
     have r0:=HR1.out.ret.cell 0 _ rfl
     have r1:=HR1.out.ret.cell 1 _ rfl
     have r2:=HR1.out.ret.cell 2 _ rfl
     have fr0:=HR1.out.ret.free 0 (by simp)
     have fr1:=HR1.out.ret.free 1 (by simp)
     have fr2:=HR1.out.ret.free 2 (by simp)
     go_wp2_with fail
     refine bodyPost_ret (v:=.tuple #[.slice none 0 0,.agg #[.string ⟨#[]⟩,.int .i64 k,.int .i64 4]]) (by simp[results,Tryz.results127,go_sem,r0,r1,r2]) rfl ?_
     refine⟨none,0,0,⟨#[]⟩,k,4,rfl,?_,by rw[E.out];exact⟨by decide,rfl,rfl⟩⟩
     exact ag (ag (ag HR1.out.bel lr _) lr _) lr _
    have h64':((n:Int)==64)=false:=by simp;omega
    go_wp2_with fail
    refine(Al Wd _ (HG.out.1.below HR1.out.bel) (by omega)).mono ?_;rintro e w2 ⟨hpost,hb2⟩
    have HR2:=ae (HR1.out.below hb2)
    clear hb2
    cases hw:gi (bl Wd) with
    | none=>
     rw[hw] at hpost
     obtain⟨a,y,hy,rfl⟩:=hpost
     have E:Hid (gu (bl s)=none):=by
      show _=_;rw[HN.out];exact Dy HK.out (by rw[←HWB.out];exact hw)
     have HY:=tG.mk hy
     clear hw hy
     unfold uP
     go_wp2_with fail
     have HR3:=ae (HR2.out.below (bR.alloc lr (.cells #[.bool false,.string ⟨#[]⟩,.int .i64 0,.string ⟨#[]⟩] 226)))
     refine(wt a y k _ (HG.out.below HR3.out.bel)).mono ?_;rintro e w4 ⟨⟨q,rfl⟩,hb4⟩
     have HR4:=ae (HR3.out.below hb4)
     clear hb4
     have r0:=HR4.out.ret.cell 0 _ rfl
     have r1:=HR4.out.ret.cell 1 _ rfl
     have r2:=HR4.out.ret.cell 2 _ rfl
     have fr0:=HR4.out.ret.free 0 (by simp)
     have fr1:=HR4.out.ret.free 1 (by simp)
     have fr2:=HR4.out.ret.free 2 (by simp)
     unfold ed
     go_wp2_with fail
     refine bodyPost_ret (v:=.tuple #[.slice none 0 0,.agg #[.string ⟨#[]⟩,.int .i64 q,.int .i64 y]]) (by simp[results,Tryz.results127,go_sem,r0,r1,r2]) rfl ?_
     refine⟨none,0,0,⟨#[]⟩,q,y,rfl,?_,by rw[E.out];exact⟨HY.out,rfl,rfl⟩⟩
     exact ag (ag (ag HR4.out.bel lr _) lr _) lr _
    | some x=>
     rw[hw] at hpost
     obtain rfl:=hpost
     have HN2:Hid (gu (bl s)=kS (f-1+1) (L++[x]) ((bl s).drop (k+Wd.size))):=by
      have hf:=HF.out
      show _=_
      rw[HN.out,Dz HK.out (by rw[HR2.out.len];exact h64) (by rw[←HWB.out];exact hw),List.drop_drop,HWZ.out,show f-1+1=f by omega]
     have HF2:Hid (s.size-(k+Wd.size)≤f-1):=by have:=HF.out;show _≤_;omega
     clear hw
     unfold fH.val
     go_wp2_with (at_builtin;refine au _ rfl _ _ _ rfl (w.heap.size+1) 226 i0 _ 4 48 Tryz.underlying174 hi0 hz0 hz1 hz2 rfl (by omega) (.slice A n c) n _ rfl ((HR2.out.row.alloc _).alloc _) (w2.heap.size+1+1) (some ⟨w2.heap.size+1,0,none⟩) 1 1 x.cells rfl (by have:=Ay (w2.alloc (.cells x.cells.toArray 226)) 226 (.bool x.no) (.string (bG x.name)) (.int .i64 x.op) (.string (bG x.ver));simpa [fH.cells] using this) (by simp[Value.oneCell',fH.cells]) (by simp only[maxLen];omega) (by omega) (by simp;have:=HR2.out.ret.sz;omega) ?_;intro v1 w3 o1 g1 a1)
     obtain⟨A1,c1,rfl⟩:=aL o1
     have R3:=ae (HR2.out.grow (x:=x) o1 g1)
     clear o1 g1 a1
     go_wp2_with fail
     go_roundw
     case rel=>exact⟨L++[x],A1,n+1,c1,k+Wd.size,f-1,rfl,by go_num,by omega,by omega,R3,HN2,HF2⟩
     case measure=>simp[intOf];omega
  ·have E:Hid (gu (bl s)=some L):=by
    show _=_;rw[HN.out,List.drop_of_length_le (by rw[ah];omega),GK]
   have r0:=HR.out.ret.cell 0 _ rfl
   have r1:=HR.out.ret.cell 1 _ rfl
   have r2:=HR.out.ret.cell 2 _ rfl
   have fr0:=HR.out.ret.free 0 (by simp)
   have fr1:=HR.out.ret.free 1 (by simp)
   have fr2:=HR.out.ret.free 2 (by simp)
   go_wp2_with fail
   refine bodyPost_ret (v:=.tuple #[.slice A n c,.agg #[.string ⟨#[]⟩,.int .i64 0,.int .i64 0]]) (by simp[results,Tryz.results127,go_sem,r0,r1,r2]) rfl ?_
   refine⟨A,n,c,⟨#[]⟩,0,0,rfl,?_,?_⟩
   ·exact ag (ag (ag HR.out.bel lr _) lr _) lr _
   ·rw[E.out]
    exact⟨rfl,HR.out.len.symm,aN (fV (fV (fV HR.out.row (Nat.lt_succ_self _)) (Nat.lt_succ_self _)) (Nat.lt_succ_self _)) (Nat.le_succ _)⟩
end
end Go.Proofs.YtlglfpbhapmhiaaGreatDoor
