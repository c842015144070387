/- A part of the proof that the digests of any content are the three of it, and that an installed set is new memory. No condition. -/
import Derived.Lib.SliceRun
import Derived.Test.YtlhchpeecfbgnaaGreatDoorG28
set_option maxRecDepth 100000
set_option maxHeartbeats 20000000
set_option linter.unusedVariables false
set_option linter.unusedSimpArgs false
namespace Go.Proofs.YtlhchpeecfbgnaaGreatDoor
section
open Go.RowKit
theorem info_atomC : (Tryz.prog.info? 32).map (fun i => (i.zero, i.size, i.bytes)) = some (some (.agg #[.string ⟨#[]⟩, .int .i64 0, .string ⟨#[]⟩]), 3, 40) := by kernel_rfl
theorem info_instC : (Tryz.prog.info? 30).map (fun i => (i.zero, i.size, i.bytes)) = some (some (.agg #[.string ⟨#[]⟩, .string ⟨#[]⟩, .slice none 0 0]), 3, 56) := by kernel_rfl
theorem two_rows {w : World} {lo lo' : Nat} {e1 e2 : TypeId} {z1 z2 n1 n2 : Nat} {v1 v2 : Value} {x1 x2 : List Value} (h1 : w.ownsRow lo e1 z1 v1 n1 x1) (h2 : w.ownsRow lo' e2 z2 v2 n2 x2) (hne : e1 ≠ e2) : v1.ownBlock = none ∨ v1.ownBlock ≠ v2.ownBlock := by
  rcases h1.2 with ⟨rfl, _⟩ | ⟨g, cap, cur, rfl, _, hh, _⟩
  · exact .inl rfl
  · right
    intro he
    rcases h2.2 with ⟨rfl, _⟩ | ⟨g2, cap2, cur2, rfl, _, hh2, _⟩
    · cases he
    · injection he with he
      have he : g = g2 := he
      subst he
      rw [hh] at hh2
      injection hh2 with hh2
      injection hh2 with _ hh3
      exact hne hh3
theorem Blk.grownQ {wr w' : World} {b : Nat} {r : Option Nat} {vs : List Value} (h : Blk wr b vs) (hg : wr.grownBy w' r) (hne : some b ≠ r) : Blk w' b vs := by
  have hk : w'.heap[b]? = wr.heap[b]? := hg.block b h.sz (fun e => hne e)
  refine ⟨Nat.lt_of_lt_of_le h.sz hg.size, fun j u hu => ?_, fun j hj => ?_⟩
  · exact (World.cell?_of_block (a := ⟨b, j, none⟩) hk).trans (h.cell j u hu)
  · exact (World.frozen?_of_block (a := ⟨b, j, none⟩) hk).trans (h.free j hj)
def InstL.ownC (x : InstL) (w : World) (lo : Nat) : Prop := w.ownsRow lo 32 3 (.slice x.ga x.gives.length x.gc) x.gives.length (x.gives.flatMap AtomM.cells)
structure CvS (w wr : World) (out : List InstL) (A : Option Addr) (n c : Nat) : Prop where
  len : out.length = n
  row : wr.ownsRow w.heap.size 30 3 (.slice A n c) n (out.flatMap InstL.cells)
  gv : ∀ x ∈ out, x.ownC wr w.heap.size
  bel : Below w.heap.size w wr
theorem CvS.start (w : World) : CvS w w [] none 0 0 := ⟨rfl, World.ownsRow_nil _ _ _ _, by simp, Below.refl _ _⟩
theorem CvS.below {w wr w' : World} {out : List InstL} {A : Option Addr} {n c : Nat} (h : CvS w wr out A n c) (hb : Below wr.heap.size wr w') : CvS w w' out A n c :=
  ⟨h.len, owns_below h.row hb, fun x hx => owns_below (h.gv x hx) hb, bthen h.bel hb⟩
theorem CvS.more {w wr w2 : World} {out : List InstL} {A A1 : Option Addr} {n c c1 : Nat} {x : InstL} (h : CvS w wr out A n c) (hx : x.ownC wr w.heap.size)
    (hr : w2.ownsRow w.heap.size 30 3 (.slice A1 (n + 1) c1) (n + 1) (out.flatMap InstL.cells ++ x.cells))
    (hg : wr.grownBy w2 (Value.slice A n c).ownBlock) : CvS w w2 (out ++ [x]) A1 (n + 1) c1 := by
  refine ⟨by simp [h.len], by rw [List.flatMap_append]; simpa using hr, fun t ht => ?_, h.bel.grown hg h.bel.size (fun j hj => (h.row.lt j hj).1)⟩
  rcases List.mem_append.1 ht with ht | ht
  · exact (h.gv t ht).kept hg (two_rows (h.gv t ht) h.row (by decide))
  · obtain rfl := List.mem_singleton.1 ht
    exact hx.kept hg (two_rows hx h.row (by decide))
theorem reads_three (w : World) (t : TypeId) (x y z : Value) : Reads (w.alloc (.cells #[x, y, z] t)) (w.heap.size + 1) 3 (some ⟨w.heap.size, 0, none⟩) 1 [x, y, z] := by
  refine ⟨rfl, fun _ => ⟨_, rfl, by simp, fun j u hu => ?_⟩⟩
  rw [show Addr.add ⟨w.heap.size, 0, none⟩ j = ⟨w.heap.size, j, none⟩ by unfold Addr.add; split <;> simp_all]
  exact (Blk.new w [x, y, z] t).cell j u hu
theorem clone_Atom (A : Option Addr) (c : Nat) (l : List AtomM) (w : World) (hr : Rd w 3 A l.length (l.flatMap AtomM.cells)) (hn : l.length ≤ 100000) :
    Calls Tryz.prog 13 #[.slice A l.length c] w (AgainPost w 32 3 l.length (l.flatMap AtomM.cells)) := by
  obtain ⟨i0, hi0, hz0, hz1, hz2⟩ := info_parts info_atomC
  have HR := Lib.hid hr
  clear hr
  have q : ∀ (w : World) (a : Option Addr) (n c n' c' : Nat), (binOp .eql 28 (.slice a n c) (.slice none n' c')).run Tryz.prog w = .ok (.bool a.isNone) w := fun w a n c n' c' => Lib.run_eql_slice_nil w _ _ a n c n' c' Tryz.underlying28
  cases A with
  | none =>
    have hl : l = [] := by
      cases l with
      | nil => rfl
      | cons a r => obtain ⟨_, _, h, _⟩ := HR.out.2 (by simp); cases h
    subst hl
    go_enter Tryz.func13, Tryz.ntmps13
    go_wp2_with fail
    go_ret
    exact ⟨_, rfl, World.ownsRow_nil _ _ _ _, Below.refl _ _⟩
  | some a =>
    have RL := Lib.hid ((HR.out.below ((Below.refl _ _).alloc (Nat.le_refl _) (.cells #[] 32))).reads (by decide))
    go_enter Tryz.func13, Tryz.ntmps13
    go_wp2_with (
      at_builtin
      refine wpList_append_any _ rfl _ _ 28 rfl w.heap.size 32 i0 _ 3 40 Tryz.underlying28 hi0 hz0 hz1 hz2 rfl (by omega) (.slice (some ⟨w.heap.size, 0, none⟩) 0 0) 0 [] rfl (World.ownsRow_made w #[] 0 (Nat.le_refl _) (Nat.zero_le _) rfl) _ (some a) l.length c _ rfl RL.out (one_flat one_atom l) (by simp only [maxLen]; omega) (by omega) (by simp) ?_
      intro v1 w1 hown1 hg1 hat1)
    go_ret
    exact ⟨v1, rfl, by simpa using hown1, ((Below.refl _ w).alloc (Nat.le_refl _) _).grown hg1 (by simp) (by intro k hk; simp [Value.ownBlock] at hk; omega)⟩
def PkL.inst (p : PkL) : InstP := ⟨p.nm, p.ver, p.gives⟩
def SetPost (l : List PkL) (w : World) (e : Ending) (w' : World) : Prop := ∃ (Ao : Option Addr) (co : Nat) (out : List InstL), e = .returned (.slice Ao out.length co) ∧ CvS w w' out Ao out.length co ∧ out.map InstL.plain = l.map PkL.inst
theorem convert_Set (A : Option Addr) (c : Nat) (l : List PkL) (w : World) (hd : DbOk w A l) (hl : l.length ≤ 100000) (hf : ∀ p ∈ l, p.few) :
    Calls Tryz.prog 6 #[.slice A l.length c] w (SetPost l w) := by
  obtain ⟨i0, hi0, hz0, hz1, hz2⟩ := info_parts info_instC
  have HD := Lib.hid hd
  have HF := Lib.hid hf
  clear hd hf
  go_enter Tryz.func6, Tryz.ntmps6
  go_wp2_with fail
  go_loopw [8, 3] (fun s8 s3 wr => ∃ (k : Nat) (out : List InstL) (Ao : Option Addr) (co : Nat), k ≤ l.length ∧ s8 = .int .i64 k ∧ s3 = .slice Ao k co ∧ Hid (CvS w wr out Ao k co) ∧ Hid (out.map InstL.plain = (l.take k).map PkL.inst)) (fun s8 _ _ => l.length - (intOf s8).toNat)
  case atStart => exact ⟨0, [], none, 0, Nat.zero_le _, rfl, rfl, CvS.start w, rfl⟩
  case round =>
    obtain ⟨k, out, Ao, co, hk, rfl, rfl, HS, HP⟩ := hrel
    by_cases hlt : k < l.length
    · obtain ⟨p, hp⟩ : ∃ p, l[k]? = some p := ⟨_, List.getElem?_eq_getElem hlt⟩
      have hpm : p ∈ l := List.mem_of_getElem? hp
      obtain ⟨b, off, hA, he⟩ := (HD.out.row.below HS.out.bel).elem pk_len k p hp
      have e0 := he 0 _ rfl
      have e1 := he 1 _ rfl
      have e2 := he 2 _ rfl
      have e3 := he 3 _ rfl
      have e4 := he 4 _ rfl
      have e5 := he 5 _ rfl
      have e6 := he 6 _ rfl
      have e7 := he 7 _ rfl
      have e8 := he 8 _ rfl
      simp only [Nat.add_zero] at e0
      have hix := fun W => idx_of (T := 23) (E := 43) (sz := 9) (c := c) Tryz.underlying23 rfl Tryz.sizeOf43 hA hlt W
      obtain ⟨W1, hW1⟩ : ∃ W1, wr.alloc (.cells #[.string p.nm, .string p.ver, .string p.ar, .string p.sm, .slice p.na p.needs.length p.nc, .slice p.ba p.bars.length p.bc, .slice p.ga p.gives.length p.gc, .slice p.fa p.files.length p.fc, .slice p.sa p.scripts.length p.sc] 43) = W1 := ⟨_, rfl⟩
      have bw : Below wr.heap.size wr W1 := by rw [← hW1]; exact (Below.refl _ _).alloc (Nat.le_refl _) _
      have BX : Hid (Blk W1 wr.heap.size p.cells) := by show Blk _ _ _; rw [← hW1]; exact Blk.new wr p.cells _
      have x0 := BX.out.cell 0 _ rfl
      have x1 := BX.out.cell 1 _ rfl
      have x6 := BX.out.cell 6 _ rfl
      have S1 := Lib.hid (HS.out.below bw)
      have hlw := BX.out.sz
      have hbz := S1.out.bel.size
      have CL := Lib.hid (clone_Atom p.ga p.gc p.gives W1.drew (((HD.out.all p hpm).gives.below S1.out.bel).drew) (HF.out p hpm).gives)
      have HPN : Hid ((l.take (k + 1)).map PkL.inst = (l.take k).map PkL.inst ++ [p.inst]) := by show _ = _; rw [List.take_add_one, hp]; simp
      have NB : Hid (some wr.heap.size ≠ (Value.slice Ao k co).ownBlock) := by intro e; have := (HS.out.row.lt _ e.symm).2; omega
      clear hp hA he bw hpm
      go_upto_region 5 with (fail)
      clear e0 e1 e2 e3 e4 e5 e6 e7 e8 hix hW1
      go_region_held3 (fun w' => w'.cell? ⟨wr.heap.size, 0, none⟩ = some (.string p.nm) ∧ w'.cell? ⟨wr.heap.size, 1, none⟩ = some (.string p.ver) ∧ w'.cell? ⟨wr.heap.size, 6, none⟩ = some (.slice p.ga p.gives.length p.gc))
        (first
          | exact ⟨x0, x1, x6⟩
          | exact ⟨(hb4.cell (p := ⟨_, _, none⟩) hlw).trans x0, (hb4.cell (p := ⟨_, _, none⟩) hlw).trans x1, (hb4.cell (p := ⟨_, _, none⟩) hlw).trans x6⟩
          | exact ⟨(X4.out.alloc _).cell 0 _ rfl, (X4.out.alloc _).cell 1 _ rfl, (X4.out.alloc _).cell 6 _ rfl⟩
          | exact ⟨X6.out.cell 0 _ rfl, X6.out.cell 1 _ rfl, X6.out.cell 6 _ rfl⟩
          | go_keep)
        (first
          | (go_at_call 13; refine CL.out.mono ?_; rintro e w4 ⟨v4, rfl, ho4, hb4⟩
             have X4 := Lib.hid (BX.out.drew.below hb4)
             have S4 : Hid (CvS w w4 out Ao k co) := (show CvS w W1.drew out Ao k co from S1.out.below ⟨rfl, rfl, rfl, Nat.le_refl _, fun _ _ => rfl⟩).below hb4
             obtain ⟨A4, c4, rfl⟩ := owns_form ho4
             have O4 := Lib.hid (owns_base ho4 hbz)
             have hs4 := S4.out.bel.size)
          | (refine step_append_any _ (by rfl) _ _ _ (by rfl) w.heap.size 30 i0 _ 3 56 Tryz.underlying26 hi0 hz0 hz1 hz2 rfl (by omega) (.slice Ao k co) k _ (by rfl) (S4.out.row.alloc _) (w4.heap.size + 1) (some ⟨w4.heap.size, 0, none⟩) 1 1 [.string p.nm, .string p.ver, .slice A4 p.gives.length c4] (by rfl) (reads_three w4 _ _ _ _) (by simp [Value.oneCell']) (by simp only [maxLen]; omega) (by omega) (by simp; omega) ?_
             intro v6 w6 hown6 hg6 hat6
             have X6 : Hid (Blk w6 wr.heap.size p.cells) := (X4.out.alloc _).grownQ hg6 NB.out))
      all_goals
        obtain ⟨A6, c6, rfl⟩ := owns_form hown6
        have S6 : Hid (CvS w w6 (out ++ [⟨p.nm, p.ver, A4, c4, p.gives⟩]) A6 (k + 1) c6) := (S4.out.below ((Below.refl _ _).alloc (Nat.le_refl _) _)).more (x := ⟨p.nm, p.ver, A4, c4, p.gives⟩) (owns_below O4.out ((Below.refl _ _).alloc (Nat.le_refl _) _)) hown6 hg6
        have P6 : Hid ((out ++ [(⟨p.nm, p.ver, A4, c4, p.gives⟩ : InstL)]).map InstL.plain = (l.take (k + 1)).map PkL.inst) := by show _ = _; rw [HPN.out, List.map_append, HP.out]; rfl
        clear hown6 hg6 hat6 ho4 hb4
        go_wp2_with fail
        go_roundw
        case rel => exact ⟨k + 1, _, A6, c6, by omega, by go_num, rfl, S6, P6⟩
        case measure => simp [intOf]; omega
    · have HE : Hid (k = out.length) := HS.out.len.symm
      have HPL : Hid (out.map InstL.plain = l.map PkL.inst) := by show _ = _; rw [HP.out, List.take_of_length_le (by omega)]
      go_wp2_with fail
      go_ret
      exact ⟨Ao, co, out, (by rw [← HE.out]; rfl), (by rw [← HE.out]; exact HS.out), HPL.out⟩
end
end Go.Proofs.YtlhchpeecfbgnaaGreatDoor
