/- A part of the proof of a law on which findings a policy admits. No condition. -/
import Derived.Test.YtfgidaaipmbibaaGreatDoorF27
import Derived.Test.YtfgidaaipmbibaaGreatDoorF41
set_option maxRecDepth 100000
set_option maxHeartbeats 20000000
set_option linter.unusedVariables false
set_option linter.unusedSimpArgs false
namespace Go.Proofs.YtfgidaaipmbibaaGreatDoor
section
open Go.RowKit Go.Maps
theorem OSt.sameT {w wr : World} {i : Nat} {T T' : List ByteArray} {ps : List (ByteArray × ByteArray)} {f g : ByteArray → Option Value} (h : OSt w wr i T ps f g) (ht : ∀ s, s ∈ T ↔ s ∈ T') : OSt w wr i T' ps f g :=
  ⟨h.grp, h.last, ⟨fun s v hv => by
    obtain ⟨j, rfl, hj⟩ := h.lst.val s v hv
    exact ⟨j, rfl, by rw [← ht s]; exact hj⟩, fun s hs => h.lst.mem s ((ht s).2 hs)⟩, h.bel, h.sz⟩
theorem prs_fits {l : List PkL} (hf : ∀ p ∈ l, p.fits) (s : ByteArray) (hs : s ∈ (prs l).map (·.1)) : s.size ≤ maxLen := by
  obtain ⟨y, hy, rfl⟩ := List.mem_map.1 hs
  obtain ⟨p, hp, hy⟩ := List.mem_flatMap.1 hy
  obtain ⟨s2, hs2, rfl⟩ := List.mem_map.1 hy
  obtain ⟨x, hx, hxe⟩ := List.mem_map.1 ((mem_dd s2 (fpaths p.files)).1 hs2)
  subst hxe
  have := ((hf p hp).files_ x hx).1
  unfold maxLen; omega
theorem heap_kept_alloc {w : World} {b : Nat} {x : Obj} (h : w.heap[b]? = some x) (o : Obj) : (w.alloc o).heap[b]? = some x := by
  have hl : b < w.heap.size := (Array.getElem?_eq_some_iff.1 h).1
  rw [Below.heap_alloc w o b hl]; exact h
theorem zero_int (w : World) : (zeroValue 3).run Tryz.prog w = .ok (.int .i64 0) w := by kernel_rfl
theorem zero_strs (w : World) : (zeroValue 29).run Tryz.prog w = .ok (.slice none 0 0) w := by kernel_rfl
theorem model_Owners (A : Option Addr) (c : Nat) (l : List PkL) (w : World) (hd : DbOk w A l) (hl : l.length ≤ 100000) (hw : wDb l ≤ 100000) (hf : ∀ p ∈ l, p.fits) :
    Calls Tryz.prog 12 #[.slice A l.length c] w (OwnedPost (prs l) w) := by
  have HD := Lib.hid hd; clear hd
  have HF := Lib.hid hf; clear hf
  have HW := Lib.hid hw; clear hw
  obtain ⟨i0, hi0, hz0, hz1, hz2⟩ := info_parts info_str
  have hmm := @run_makeMap Tryz.prog
  go_enter Tryz.func12, Tryz.ntmps12
  go_wp2_with fail
  clear hmm
  go_loopw [18] (fun i wr => ∃ (k : Nat) (f g : ByteArray → Option Value), k ≤ l.length ∧ i = .int .i64 k ∧ Hid (OSt w wr k [] (prs (l.take k)) f g)) (fun i _ => l.length - (intOf i).toNat)
  case atStart => exact ⟨0, _, _, Nat.zero_le _, rfl, OSt.start w⟩
  case round =>
    obtain ⟨k, f, g, hk, rfl, HR⟩ := hrel
    by_cases hlt : k < l.length
    · obtain ⟨p, hp⟩ : ∃ p, l[k]? = some p := ⟨_, List.getElem?_eq_getElem hlt⟩
      have hpm : p ∈ l := List.mem_of_getElem? hp
      obtain ⟨b, off, hA, he⟩ := (HD.out.row.below HR.out.bel).elem pk_len k p hp
      have e0 := he 0 _ rfl
      have e1 := he 1 _ rfl
      have e2 := he 2 _ rfl
      have e3 := he 3 _ rfl
      have e4 := he 4 _ rfl
      have e5 := he 5 _ rfl
      have e6 := he 6 _ rfl
      have e7 := he 7 _ rfl
      have e8 := he 8 _ rfl
      simp only [Nat.add_zero] at e0
      have hix := fun W => idx_of (T := 39) (E := 33) (sz := 9) (c := c) Tryz.underlying39 rfl Tryz.sizeOf33 hA hlt W
      have HP := Lib.hid hp; have HPM := Lib.hid hpm
      clear hp hpm hA he
      have fl := (HF.out p HPM.out).files
      go_wp2_with fail
      clear e0 e1 e2 e3 e4 e5 e6 e7 e8 hix
      have A0 : Hid (OSt w (wr.alloc (.cells #[.string p.nm, .string p.ver, .string p.ar, .string p.sm, .slice p.na p.needs.length p.nc, .slice p.ba p.bars.length p.bc, .slice p.ga p.gives.length p.gc, .slice p.fa p.files.length p.fc, .slice p.sa p.scripts.length p.sc] 33)) k [] (prs (l.take k)) f g) := HR.out.alloc _
      have B0 : Hid ((wr.alloc (.cells #[.string p.nm, .string p.ver, .string p.ar, .string p.sm, .slice p.na p.needs.length p.nc, .slice p.ba p.bars.length p.bc, .slice p.ga p.gives.length p.gc, .slice p.fa p.files.length p.fc, .slice p.sa p.scripts.length p.sc] 33)).heap[wr.heap.size]? = some (.cells #[.string p.nm, .string p.ver, .string p.ar, .string p.sm, .slice p.na p.needs.length p.nc, .slice p.ba p.bars.length p.bc, .slice p.ga p.gives.length p.gc, .slice p.fa p.files.length p.fc, .slice p.sa p.scripts.length p.sc] 33)) := heap_alloc_new wr _
      generalize hpb : wr.heap.size = pb at *
      have HPB := Lib.hid hpb; clear hpb
      go_loopw [26] (fun i wr => ∃ (m : Nat) (f g : ByteArray → Option Value), m ≤ p.files.length ∧ i = .int .i64 m ∧ Hid (OSt w wr k (fpaths (p.files.take m)) (prs (l.take k) ++ pPrs (p.files.take m) p.nm) f g) ∧
        Hid (wr.heap[pb]? = some (.cells #[.string p.nm, .string p.ver, .string p.ar, .string p.sm, .slice p.na p.needs.length p.nc, .slice p.ba p.bars.length p.bc, .slice p.ga p.gives.length p.gc, .slice p.fa p.files.length p.fc, .slice p.sa p.scripts.length p.sc] 33)) ∧ pb < wr.heap.size ∧ w.heap.size + 2 ≤ pb) (fun i _ => p.files.length - (intOf i).toNat)
      case atStart => exact ⟨0, f, g, Nat.zero_le _, rfl, Lib.hid (by simpa [fpaths, pPrs, dd] using A0.out), B0, by rw [← HPB.out]; simp, by rw [← HPB.out]; exact HR.out.sz⟩
      case round =>
        clear A0 B0 HR HPB
        obtain ⟨m, f, g, hm, rfl, HR, HB, hpl, hpw⟩ := hrel
        by_cases hml : m < p.files.length
        · obtain ⟨x, hx⟩ : ∃ x, p.files[m]? = some x := ⟨_, List.getElem?_eq_getElem hml⟩
          obtain ⟨b, off, hA, he⟩ := ((HD.out.all p HPM.out).below HR.out.bel).files.elem file_len m x hx
          have e0 := he 0 _ rfl
          have e1 := he 1 _ rfl
          have e2 := he 2 _ rfl
          have e3 := he 3 _ rfl
          have e4 := he 4 _ rfl
          have e5 := he 5 _ rfl
          have e6 := he 6 _ rfl
          have e7 := he 7 _ rfl
          simp only [Nat.add_zero] at e0
          have hix := fun W => idx_of (T := 28) (E := 27) (sz := 8) (c := p.fc) Tryz.underlying28 rfl Tryz.sizeOf27 hA hml W
          have hxs : x.path.size ≤ maxLen := by have := ((HF.out p HPM.out).files_ x (List.mem_of_getElem? hx)).1; unfold maxLen; omega
          have HX := Lib.hid hx
          clear hx hA he
          have a0 : Hid (OSt w (wr.alloc (.cells #[.string x.path, .int .i64 x.kind, .int .i64 x.mode, .string x.owner, .string x.group, .string x.link, .string x.sum, .bool x.conf] 27)) k (fpaths (p.files.take m)) (prs (l.take k) ++ pPrs (p.files.take m) p.nm) f g) := HR.out.alloc _
          have hlk := a0.out.last.look_ok Tryz.underlying81 zero_int x.path hxs
          by_cases hin : x.path ∈ fpaths (p.files.take m)
          · obtain ⟨v, hv⟩ := Option.ne_none_iff_exists'.1 (a0.out.lst.mem _ hin)
            obtain ⟨j, rfl, hj⟩ := a0.out.lst.val _ _ hv
            obtain rfl : j = k := by rcases hj with ⟨h, _⟩ | ⟨_, h⟩; exact h; exact absurd hin h
            rw [hv] at hlk
            simp only [Option.getD_some, Option.isSome_some] at hlk
            have HV := Lib.hid hv; have HIN := Lib.hid hin
            clear hv hj hin
            go_wp2_with fail
            clear hlk
            have HPS : Hid (prs (l.take j) ++ pPrs (p.files.take (m + 1)) p.nm = prs (l.take j) ++ pPrs (p.files.take m) p.nm) := by show _ = _; rw [pPrs_snoc HX.out, if_pos HIN.out]
            go_roundw
            case rel => exact ⟨m + 1, f, g, by omega, by go_num, Lib.hid (by rw [HPS.out, fpaths_snoc HX.out]; exact a0.out.sameT (fun s => by rw [List.mem_append, List.mem_singleton]; exact ⟨.inl, fun h => h.elim id (fun h => h ▸ HIN.out)⟩)), Lib.hid (heap_kept_alloc HB.out _), by simp; omega, hpw⟩
            case measure => simp [intOf]; omega
          · have hlk2 : ∃ (v : Value) (bb : Bool), (Instr.lookup 81 (.map (some (w.heap.size + 1))) (.string x.path) true).run Tryz.prog (wr.alloc (.cells #[.string x.path, .int .i64 x.kind, .int .i64 x.mode, .string x.owner, .string x.group, .string x.link, .string x.sum, .bool x.conf] 27)) = .ok (.tuple #[v, .bool bb]) (wr.alloc (.cells #[.string x.path, .int .i64 x.kind, .int .i64 x.mode, .string x.owner, .string x.group, .string x.link, .string x.sum, .bool x.conf] 27)) ∧ (bb = false ∨ bb = true ∧ ∃ j : Nat, v = .int .i64 j ∧ j < k) := by
              refine ⟨_, _, hlk, ?_⟩
              cases hv : g x.path with
              | none => exact .inl rfl
              | some v =>
                obtain ⟨j, rfl, hj⟩ := a0.out.lst.val _ _ hv
                refine .inr ⟨rfl, j, rfl, ?_⟩
                rcases hj with ⟨_, h⟩ | ⟨h, _⟩
                · exact absurd h hin
                · exact h
            clear hlk
            obtain ⟨lv, bb, hlk, hbb⟩ := hlk2
            have hN : Hid ((prs (l.take k) ++ pPrs (p.files.take m) p.nm).length < maxLen) := by
              have h1 := prs_length l
              have h2 : (prs (l.take k) ++ pPrs p.files p.nm).length ≤ (prs l).length := by rw [← prs_snoc HP.out]; exact prs_take_length l (k + 1)
              have h3 : (pPrs (p.files.take m) p.nm).length ≤ (pPrs p.files p.nm).length := pPrs_take_length p.files p.nm m
              have := HW.out
              show _ < _
              unfold maxLen; rw [List.length_append] at *; omega
            obtain ⟨w1, hrun1, hm1, hg1⟩ := a0.out.last.put Tryz.underlying81 hN.out x.path hxs (.int .i64 k)
            have HIN := Lib.hid hin; clear hin
            have HM1 := Lib.hid hm1; have HG1 := Lib.hid hg1
            clear hm1 hg1
            have cF : w1.cell? ⟨wr.heap.size, 0, none⟩ = some (.string x.path) := HG1.out.cell (by simp) (by simp; omega)
            have cP : w1.cell? ⟨pb, 0, none⟩ = some (.string p.nm) := HG1.out.cell (by rw [World.cell?_of_block (Below.heap_alloc wr _ pb hpl)]; simp [World.cell?, HB.out]) (by simp; omega)
            obtain ⟨v0, hv0⟩ : ∃ v0, v0 = (f x.path).getD (.slice none 0 0) := ⟨_, rfl⟩
            have MW : Hid (MapIs w1 w.heap.size (prs (l.take k) ++ pPrs (p.files.take m) p.nm).length f) := a0.out.grp.names.kept HG1.out (by simp)
            have OW : Hid (w1.ownsRow (w.heap.size + 2) 9 1 v0 (nms (prs (l.take k) ++ pPrs (p.files.take m) p.nm) x.path).length (strCells (nms (prs (l.take k) ++ pPrs (p.files.take m) p.nm) x.path))) := by
              have := a0.out.grp.at_ x.path
              rw [← hv0] at this
              exact this.kept HG1.out (by
                cases hb : v0.ownBlock with
                | none => exact .inl rfl
                | some q => right; intro he; injection he with he; have := (this.lt q hb).1; omega)
            have hl1 : (Instr.lookup 91 (.map (some w.heap.size)) (.string x.path) false).run Tryz.prog w1.drew = .ok v0 w1.drew := by rw [hv0]; exact MW.out.drew.look Tryz.underlying91 zero_strs x.path hxs
            have hl2 : (Instr.lookup 91 (.map (some w.heap.size)) (.string x.path) false).run Tryz.prog (w1.alloc (.cells #[.string p.nm] 9)).drew = .ok v0 (w1.alloc (.cells #[.string p.nm] 9)).drew := by rw [hv0]; exact (MW.out.alloc _).drew.look Tryz.underlying91 zero_strs x.path hxs
            have HV0 := Lib.hid hv0; clear hv0
            have hz1w : wr.heap.size + 1 ≤ w1.heap.size := by have := HG1.out.size; simp at this; exact this
            have nF : some wr.heap.size ≠ v0.ownBlock := ownsRow_ne (fr := (0, 0)) OW.out ((HG1.out.block wr.heap.size (by simp) (by simp; omega)).trans (heap_alloc_new wr _)) (by decide)
            have nP : some pb ≠ v0.ownBlock := ownsRow_ne (fr := (0, 0)) OW.out ((HG1.out.block pb (by simp; omega) (by simp; omega)).trans (heap_kept_alloc HB.out _)) (by decide)
            have nM : some w.heap.size ≠ v0.ownBlock := by
              intro he
              have := (OW.out.lt _ he.symm).1; omega
            have CF : Hid ((w1.alloc (.cells #[.string p.nm] 9)).drew.cell? ⟨wr.heap.size, 0, none⟩ = some (.string x.path)) := (World.cell?_alloc_lt w1 _ ⟨wr.heap.size, 0, none⟩ (by show wr.heap.size < w1.heap.size; omega)).trans cF
            have CP : Hid ((w1.alloc (.cells #[.string p.nm] 9)).drew.cell? ⟨pb, 0, none⟩ = some (.string p.nm)) := (World.cell?_alloc_lt w1 _ ⟨pb, 0, none⟩ (by show pb < w1.heap.size; omega)).trans cP
            have NF := Lib.hid nF; have NP := Lib.hid nP; have NM := Lib.hid nM
            clear nF nP nM
            have NL : Hid ((nms (prs (l.take k) ++ pPrs (p.files.take m) p.nm) x.path).length + 1 ≤ maxLen ∧ ((nms (prs (l.take k) ++ pPrs (p.files.take m) p.nm) x.path).length + 1) * 16 ≤ 140737488355328) := by
              have h1 := prs_length l
              have h2 : (prs (l.take k) ++ pPrs p.files p.nm).length ≤ (prs l).length := by rw [← prs_snoc HP.out]; exact prs_take_length l (k + 1)
              have h3 : (pPrs (p.files.take m) p.nm).length ≤ (pPrs p.files p.nm).length := pPrs_take_length p.files p.nm m
              have h4 := nms_length (prs (l.take k) ++ pPrs (p.files.take m) p.nm) x.path
              have := HW.out
              show _ ∧ _
              unfold maxLen; rw [List.length_append] at *; omega
            rcases hbb with rfl | ⟨rfl, j, rfl, hj⟩
            · go_wp2_with fail
              clear hlk hrun1 e0 e1 e2 e3 e4 e5 e6 e7 hix
              go_region_held3 (fun w' => w'.cell? ⟨wr.heap.size, 0, none⟩ = some (.string x.path) ∧ w'.cell? ⟨pb, 0, none⟩ = some (.string p.nm))
                (first
                  | go_keep
                  | exact ⟨hg2.cell CF.out NF.out, hg2.cell CP.out NP.out⟩
                  | exact ⟨hg3.cell (hg2.cell CF.out NF.out) (by simp; omega), hg3.cell (hg2.cell CP.out NP.out) (by simp; omega)⟩)
                ((refine step_append_any _ (by rfl) _ _ _ (by rfl) (w.heap.size + 2) 9 i0 _ 1 16 Tryz.underlying29 hi0 hz0 hz1 hz2 rfl (by omega) v0 _ _ (by rfl) ((OW.out.alloc _).drew)
                    (w1.heap.size + 1) (some ⟨w1.heap.size, 0, none⟩) 1 1 [.string p.nm] (by rfl) (reads_new1 w1 p.nm) (by simp [Value.oneCell']) (NL.out.1) (NL.out.2) (by simp; have := HR.out.sz; omega) ?_
                  intro v1 w2 hown2 hg2 hat2
                  obtain ⟨w3, hrun3, hm3, hg3⟩ := (((MW.out.alloc (.cells #[.string p.nm] 9)).drew).kept hg2 NM.out).put Tryz.underlying91 hN.out x.path hxs v1))
              all_goals
                have FIN := OSt.step a0.out HM1.out HG1.out (only_drewN (World.grownBy_alloc w1 (.cells #[.string p.nm] 9) none) 1) hown2 (by rw [← HV0.out]; exact hg2) (by rw [← HV0.out]; exact hat2) hm3 hg3
                have HFIN := Lib.hid FIN
                have HHB : Hid (w3.heap[pb]? = some _) := (hg3.block pb (by have := hg2.size; simp at this; omega) (by simp; omega)).trans ((hg2.block pb (by simp; omega) NP.out).trans (heap_kept_alloc ((HG1.out.block pb (by simp; omega) (by simp; omega)).trans (heap_kept_alloc HB.out _)) _))
                have hpl3 : pb < w3.heap.size := by have h1 := hg2.size; have h2 := hg3.size; simp at h1; omega
                clear FIN hown2 hg2 hat2 hrun3 hm3 hg3 hl1 hl2 cF cP
                go_wp2_with fail
                go_roundw
                case rel => exact ⟨m + 1, _, _, by omega, by go_num, Lib.hid (by rw [pPrs_snoc HX.out, if_neg HIN.out, fpaths_snoc HX.out, ← List.append_assoc]; exact HFIN.out), HHB, hpl3, hpw⟩
                case measure => simp [intOf]; omega
            · have hjk : ((j : Int) == (k : Int)) = false := by simp; omega
              go_wp2_with fail
              clear hlk hrun1 e0 e1 e2 e3 e4 e5 e6 e7 hix
              go_region_held3 (fun w' => w'.cell? ⟨wr.heap.size, 0, none⟩ = some (.string x.path) ∧ w'.cell? ⟨pb, 0, none⟩ = some (.string p.nm))
                (first
                  | go_keep
                  | exact ⟨hg2.cell CF.out NF.out, hg2.cell CP.out NP.out⟩
                  | exact ⟨hg3.cell (hg2.cell CF.out NF.out) (by simp; omega), hg3.cell (hg2.cell CP.out NP.out) (by simp; omega)⟩)
                ((refine step_append_any _ (by rfl) _ _ _ (by rfl) (w.heap.size + 2) 9 i0 _ 1 16 Tryz.underlying29 hi0 hz0 hz1 hz2 rfl (by omega) v0 _ _ (by rfl) ((OW.out.alloc _).drew)
                    (w1.heap.size + 1) (some ⟨w1.heap.size, 0, none⟩) 1 1 [.string p.nm] (by rfl) (reads_new1 w1 p.nm) (by simp [Value.oneCell']) (NL.out.1) (NL.out.2) (by simp; have := HR.out.sz; omega) ?_
                  intro v1 w2 hown2 hg2 hat2
                  obtain ⟨w3, hrun3, hm3, hg3⟩ := (((MW.out.alloc (.cells #[.string p.nm] 9)).drew).kept hg2 NM.out).put Tryz.underlying91 hN.out x.path hxs v1))
              all_goals
                have FIN := OSt.step a0.out HM1.out HG1.out (only_drewN (World.grownBy_alloc w1 (.cells #[.string p.nm] 9) none) 1) hown2 (by rw [← HV0.out]; exact hg2) (by rw [← HV0.out]; exact hat2) hm3 hg3
                have HFIN := Lib.hid FIN
                have HHB : Hid (w3.heap[pb]? = some _) := (hg3.block pb (by have := hg2.size; simp at this; omega) (by simp; omega)).trans ((hg2.block pb (by simp; omega) NP.out).trans (heap_kept_alloc ((HG1.out.block pb (by simp; omega) (by simp; omega)).trans (heap_kept_alloc HB.out _)) _))
                have hpl3 : pb < w3.heap.size := by have h1 := hg2.size; have h2 := hg3.size; simp at h1; omega
                clear FIN hown2 hg2 hat2 hrun3 hm3 hg3 hl1 hl2 cF cP
                go_wp2_with fail
                go_roundw
                case rel => exact ⟨m + 1, _, _, by omega, by go_num, Lib.hid (by rw [pPrs_snoc HX.out, if_neg HIN.out, fpaths_snoc HX.out, ← List.append_assoc]; exact HFIN.out), HHB, hpl3, hpw⟩
                case measure => simp [intOf]; omega
        · go_wp2_with fail
          go_roundw
          case rel => exact ⟨k + 1, f, g, by omega, by go_num, Lib.hid (by have := HR.out.next; rw [List.take_of_length_le (l := p.files) (by omega)] at this; rw [prs_snoc HP.out]; exact this)⟩
          case measure => simp [intOf]; omega
    · have hkl : Hid (k = l.length) := by show _ = _; omega
      have HR2 : Hid (OSt w wr k [] (prs l) f g) := by have := HR.out; rw [List.take_of_length_le (by omega)] at this; exact this
      clear HR
      obtain ⟨D0, hD, hDs, hDn, hDk, hDm⟩ := HR2.out.grp.names.keys
      have HDn := Lib.hid hDn; have HDk := Lib.hid hDk; have HDm := Lib.hid hDm
      have hps : Hid ((prs l).length ≤ 100000) := by show _ ≤ _; have := prs_length l; have := HW.out; omega
      have hD1 : Maps.size D0 ≤ maxLen := by have := hps.out; unfold maxLen; omega
      have hD2 : Maps.size D0 * 16 ≤ 140737488355328 := by have := hps.out; omega
      have HDO := Lib.hid hD
      clear hDn hDk hDm hD hDs
      go_wp2_with fail
      refine (callsIn_wide.1 (Tryz.maps_Keys_32 _ _)).mono ?_; rintro e w' ⟨rfl, rfl⟩
      go_wp2_with fail
      refine (callsIn_wide.1 (Tryz.slices_Sorted_keys_31_32 w.heap.size _ D0 RV wr HDO.out hD1 hD2)).mono ?_; rintro e w4 ⟨v, ss, rfl, hS, hrow, hnil, hb⟩
      obtain ⟨ks, hks⟩ : ∃ ks, ks = (ss.mergeSort leB).map baOf := ⟨_, rfl⟩
      have hkn : ks.length = ss.length := by rw [hks]; simp
      have HKS : Hid (ks.Pairwise (fun s t => bl s < bl t) ∧ ∀ s : ByteArray, s ∈ ks ↔ bl s ∈ strKeys D0) := by have := sorted_keys hS HDn.out; rw [← hks] at this; exact this
      have hrow2 : w4.ownsRow (wr.alloc (.cells #[.map (some w.heap.size)] 91)).heap.size 9 1 v ks.length (strCells ks) := by
        have := hrow; rw [← hkn, strCells_keys, ← hks] at this; exact this
      obtain ⟨Ak, ck, rfl⟩ := owns_form hrow2
      have HROW := Lib.hid hrow2
      have HB4 : Hid (Below wr.heap.size wr w4) := bthen ((Below.refl _ _).alloc (Nat.le_refl _) _) hb
      have HG4 : Hid (Grp w w4 (prs l) f) := HR2.out.grp.below HB4.out
      have HKM : Hid (∀ s, s ∈ ks → s.size ≤ maxLen ∧ ∃ u, f s = some u) := by
        intro s hs
        have := HDk.out _ ((HKS.out.2 s).1 hs)
        refine ⟨by have h1 := this.1; rw [bl_length] at h1; exact h1, ?_⟩
        have h2 := this.2
        rw [show (⟨(bl s).toArray⟩ : ByteArray) = s from baOf_bl s] at h2
        exact Option.isSome_iff_exists.1 h2
      have HKL : Hid (ks.length ≤ 100000) := by
        have := hps.out
        show _ ≤ _
        have h1 : (strKeys D0).length = Maps.size D0 := by
          obtain ⟨es, hD, _⟩ := HDO.out.keysOf
          rw [hD]; simp [strKeys, Maps.size]
        have h2 := hS.length_eq
        have h3 := HDO.out.size_le
        omega
      have hklen := HKL.out
      clear hS hrow hnil hb hrow2 hks hkn HDn HDk HKL
      obtain ⟨i1, hi1, hy0, hy1, hy2⟩ := info_parts info_Owned
      go_wp2_with fail
      go_loopw [11, 64] (fun o i wr2 => ∃ (j : Nat) (out : List OwL), j ≤ ks.length ∧ i = .int .i64 j ∧ Hid (out.length = j ∧ wr2.ownsRow w4.heap.size 59 2 o j (out.flatMap OwL.cells) ∧ out.map OwL.path = ks.take j ∧ (∀ x ∈ out, f x.path = some x.sl ∧ x.names = nms (prs l) x.path) ∧ Below w4.heap.size w4 wr2)) (fun _ i _ => ks.length - (intOf i).toNat)
      case atStart => exact ⟨0, [], Nat.zero_le _, rfl, rfl, World.ownsRow_nil _ _ _ _, rfl, by simp, Below.refl _ _⟩
      case round =>
        obtain ⟨j, out, hj, rfl, HO⟩ := hrel
        obtain ⟨Ao, co, rfl⟩ := owns_form HO.out.2.1
        by_cases hjl : j < ks.length
        · obtain ⟨s, hs⟩ : ∃ s, ks[j]? = some s := ⟨_, List.getElem?_eq_getElem hjl⟩
          obtain ⟨b, off, hA, he⟩ := ((owns_rd HROW.out).below HO.out.2.2.2.2).str j s hs
          have hix := fun W => idx_of (T := 29) (E := 9) (sz := 1) (c := ck) Tryz.underlying29 rfl Tryz.sizeOf9 hA hjl W
          simp only [Nat.mul_one] at hix
          obtain ⟨hss, u, hu⟩ := HKM.out s (List.mem_of_getElem? hs)
          have hown := HG4.out.row s u hu
          obtain ⟨na, nc, rfl⟩ := owns_form hown
          have hl1 := (HG4.out.names.below HO.out.2.2.2.2).look Tryz.underlying91 zero_strs s hss
          rw [hu] at hl1
          simp only [Option.getD_some] at hl1
          have HS := Lib.hid hs; have HU := Lib.hid hu
          clear hs hA hown hu hss
          go_wp2_with (at_builtin; refine wpList_append_any _ rfl _ _ _ rfl w4.heap.size 59 i1 _ 2 40 Tryz.underlying56 hi1 hy0 hy1 hy2 rfl (by omega) (.slice Ao j co) j _ rfl (HO.out.2.1.alloc _) (wr.heap.size + 1) (some ⟨wr.heap.size, 0, none⟩) 1 1 [.string s, .slice na (nms (prs l) s).length nc] rfl (reads_new2 wr _ _) (by simp [Value.oneCell']) (by simp only [maxLen]; omega) (by omega) (by simp; have := HO.out.2.2.2.2.size; omega) ?_; intro v1 w5 hown1 hg1 hat1)
          have HFIN : Hid ((out ++ [({ path := s, na := na, nc := nc, names := nms (prs l) s } : OwL)]).length = j + 1 ∧ w5.ownsRow w4.heap.size 59 2 v1 (j + 1) ((out ++ [({ path := s, na := na, nc := nc, names := nms (prs l) s } : OwL)]).flatMap OwL.cells) ∧ (out ++ [({ path := s, na := na, nc := nc, names := nms (prs l) s } : OwL)]).map OwL.path = ks.take (j + 1) ∧ (∀ x ∈ out ++ [({ path := s, na := na, nc := nc, names := nms (prs l) s } : OwL)], f x.path = some x.sl ∧ x.names = nms (prs l) x.path) ∧ Below w4.heap.size w4 w5) := by
            obtain ⟨h1, h2, h3, h4, h5⟩ := HO.out
            obtain ⟨hjl', hsx⟩ := List.getElem?_eq_some_iff.1 HS.out
            refine ⟨by simp [h1], by rw [List.flatMap_append]; exact hown1, by rw [List.map_append, h3, List.take_succ_eq_append_getElem hjl', hsx]; rfl, fun x hx => ?_, ?_⟩
            · rcases List.mem_append.1 hx with hx | hx
              · exact h4 x hx
              · rw [List.mem_singleton.1 hx]; exact ⟨HU.out, rfl⟩
            · have b1 : Below w4.heap.size w4 (wr.alloc (.cells #[.string s, .slice na (nms (prs l) s).length nc] 59)) := h5.alloc h5.size _
              exact b1.grown hg1 b1.size (fun q hq => (h2.lt q hq).1)
          clear hown1 hg1 hat1 hl1 he hix
          go_roundw
          case rel => exact ⟨j + 1, _, by omega, by go_num, HFIN⟩
          case measure => simp [intOf]; omega
        · go_wp2_with fail
          go_ret
          obtain ⟨h1, h2, h3, h4, h5⟩ := HO.out
          obtain rfl : j = ks.length := by omega
          rw [List.take_of_length_le (Nat.le_refl _)] at h3
          have hb5 : Below w.heap.size w wr := bthen (bthen HR2.out.bel HB4.out) h5
          refine ⟨Ao, co, out, by rw [h1]; rfl, by have := owns_rd h2; rw [← h1] at this; exact this, fun x hx => ?_, ⟨?_, ?_, ?_⟩, hb5⟩
          · obtain ⟨hx1, hx2⟩ := h4 x hx
            have := HG4.out.row _ _ hx1
            rw [← hx2] at this
            exact (owns_rd this).below h5
          · rw [List.map_map, show (Prod.fst ∘ OwL.pair) = OwL.path from rfl, h3]; exact HKS.out.1
          · intro s
            rw [List.map_map, show (Prod.fst ∘ OwL.pair) = OwL.path from rfl, h3]
            constructor
            · intro hs
              obtain ⟨_, u, hu⟩ := HKM.out s hs
              by_cases hn : s ∈ (prs l).map (·.1)
              · exact hn
              · rw [(HG4.out.dom s).2 hn] at hu; cases hu
            · intro hs
              refine (HKS.out.2 s).2 (HDm.out s (prs_fits HF.out s hs) ?_)
              cases hu : f s with
              | none => exact absurd hs ((HG4.out.dom s).1 hu)
              | some u => rfl
          · intro y hy
            obtain ⟨x, hx, rfl⟩ := List.mem_map.1 hy
            exact (h4 x hx).2
end
end Go.Proofs.YtfgidaaipmbibaaGreatDoor
