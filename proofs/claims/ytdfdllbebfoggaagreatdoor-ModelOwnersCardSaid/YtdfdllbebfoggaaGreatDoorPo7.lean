/- Contract: drayageref19.Owners. -/
import Derived.Test.YtdfdllbebfoggaaGreatDoorPo6
import Derived.Test.YtdfdllbebfoggaaGreatDoorMk5
import Derived.Deep.RegionLaw
import Derived.BigRegion
namespace Go.Proofs.YtdfdllbebfoggaaGreatDoor
open Go.RowKit

theorem bytesLess_dec : ∀ (x y : List UInt8), Op.bytesLess x y = decide (x < y)
  | [], [] => by simp [Op.bytesLess]
  | _ :: _, [] => by simp [Op.bytesLess]
  | [], _ :: _ => by simp [Op.bytesLess]
  | a :: x, b :: y => by
    rw [Op.bytesLess, bytesLess_dec x y, Bool.eq_iff_iff]
    simp [List.cons_lt_cons_iff]
theorem less_bl (s t : ByteArray) : Op.bytesLess s.toList t.toList = true ↔ bl s < bl t := by rw [bytesLess_dec, bl_toList, bl_toList, decide_eq_true_eq]
theorem bne_bl (s t : ByteArray) : (s.toList != t.toList) = decide (s ≠ t) := by
  have := beq_bl s t
  simp only [bne, this]; simp
theorem owns_cap {w : World} {base : Nat} {e : TypeId} {size n c : Nat} {A : Option Addr} {xs : List Value} (h : w.ownsRow base e size (.slice A n c) n xs) : n ≤ c := by
  rcases h.2 with ⟨hv, rfl⟩ | ⟨g, cap, cur, hv, _, _, hc, _⟩
  · exact Nat.zero_le _
  · injection hv with _ _ h3; omega
theorem flat_drop {α : Type} {f : α → List Value} {sz : Nat} (hf : ∀ x, (f x).length = sz) : ∀ (l : List α) (k : Nat), (l.flatMap f).drop (k * sz) = (l.drop k).flatMap f
  | [], k => by simp
  | a :: r, 0 => by simp
  | a :: r, k + 1 => by
    rw [List.flatMap_cons, List.drop_succ_cons, ← flat_drop hf r k, List.drop_append, hf, List.drop_eq_nil_of_le (by rw [hf, Nat.add_mul]; omega), List.nil_append]
    congr 1; rw [Nat.add_mul]; omega
theorem one_owl (x : OwL) : ∀ u ∈ x.cells, u.oneCell' = true := by intro u hu; simp only [OwL.cells, List.mem_cons, List.not_mem_nil, or_false] at hu; rcases hu with rfl | rfl <;> rfl
theorem rmid_step {w wr wb w2 : World} {g cap N a : Nat} {ps : List (ByteArray × ByteArray)} {path nm : ByteArray} {pre : List OwL} {x : OwL} {post : List OwL} {na : Option Addr} {nc : Nat} (ha : pre.length = a) (hN : N = (pre ++ x :: post).length) (h : RMid w wr (.slice (some ⟨g, 0, none⟩) N cap) ps path pre x post)
    (gb : wr.grownBy wb none) (o2 : w2.ownsRow w.heap.size 9 1 (.slice na (x.names.length + 1) nc) (x.names.length + 1) (strCells x.names ++ [.string nm])) (g2 : wb.grownBy w2 (Value.slice x.na x.names.length x.nc).ownBlock)
    (a2 : (Value.slice na (x.names.length + 1) nc).ownBlock = (Value.slice x.na x.names.length x.nc).ownBlock ∨ (Value.slice na (x.names.length + 1) nc).ownBlock = some wb.heap.size) :
    ROut w (w2.setCell ⟨g, a * 2 + 1, none⟩ (.slice na (x.names.length + 1) nc)) (.slice (some ⟨g, 0, none⟩) N cap) (ps ++ [(path, nm)]) (pre ++ { x with na := na, nc := nc, names := x.names ++ [nm] } :: post) := by
  subst ha hN; exact RMid.step h gb o2 g2 a2
theorem Rd.take {α : Type} {f : α → List Value} {sz : Nat} (hf : ∀ x, (f x).length = sz) {w : World} {A : Option Addr} {l : List α} (h : Rd w sz A l.length (l.flatMap f)) (k : Nat) : Rd w sz A (l.take k).length ((l.take k).flatMap f) := by
  refine ⟨flat_length hf _, fun hn => ?_⟩
  have hl : 0 < l.length := by rw [List.length_take] at hn; omega
  obtain ⟨b, off, e, hc⟩ := h.2 hl
  refine ⟨b, off, e, fun j u hu => hc j u ?_⟩
  have e2 : l.flatMap f = (l.take k).flatMap f ++ (l.drop k).flatMap f := by rw [← List.flatMap_append, List.take_append_drop]
  rw [e2, List.getElem?_append_left (List.getElem?_eq_some_iff.1 hu).1]; exact hu
theorem ref_Find_at (A : Option Addr) (c n : Nat) (fs : List FileM) (hfs : Hid (fs.length = n)) (path : ByteArray) (w : World) (hr : Rd w 8 A fs.length (fs.flatMap FileM.cells)) (hn : fs.length ≤ 9223372036854775807) :
    Calls Tryz.prog 42 #[.slice A n c, .string path] w (FindPost fs path w) := by
  have := ref_Find A c fs path w hr hn
  rw [hfs.out] at this; exact this

set_option maxRecDepth 100000 in
set_option maxHeartbeats 8000000 in
theorem ref_Owners (A : Option Addr) (c : Nat) (l : List PkL) (w : World) (hd : DbOk w A l) (hl : l.length ≤ 100000) (hw : wDb l ≤ 100000) (hf : ∀ p ∈ l, p.fits) (hcap : ∀ p ∈ l, p.files.length ≤ p.fc) :
    Calls Tryz.prog 25 #[.slice A l.length c] w (OwnedPost (prs l) w) := by
  have HD := Lib.hid hd; clear hd
  have HF := Lib.hid hf; clear hf
  have HW := Lib.hid hw; clear hw
  have HC := Lib.hid hcap; clear hcap
  go_enter Tryz.func25, Tryz.ntmps25
  go_wp2_with fail
  go_loopw [3, 4] (fun o i wr => ∃ (k : Nat) (out : List OwL), k ≤ l.length ∧ i = .int .i64 k ∧ Hid (ROut w wr o (prs (l.take k)) out)) (fun _ i _ => l.length - (intOf i).toNat)
  case atStart => exact ⟨0, [], Nat.zero_le _, rfl, ROut.start w⟩
  case round =>
    obtain ⟨k, out, hk, rfl, HR⟩ := hrel
    by_cases hlt : k < l.length
    · obtain ⟨p, hp⟩ : ∃ p, l[k]? = some p := ⟨_, List.getElem?_eq_getElem hlt⟩
      have hpm : p ∈ l := List.mem_of_getElem? hp
      have HP := Lib.hid hp; have HPM := Lib.hid hpm
      clear hp hpm
      have fl := (HF.out p HPM.out).files
      go_wp2_with fail
      go_loopw [3, 5] (fun o i wr => ∃ (m : Nat) (out : List OwL), m ≤ p.files.length ∧ i = .int .i64 m ∧ Hid (ROut w wr o (prs (l.take k) ++ pPrs (p.files.take m) p.nm) out)) (fun _ i _ => p.files.length - (intOf i).toNat)
      case atStart => exact ⟨0, out, Nat.zero_le _, rfl, Lib.hid (by simpa [pPrs, dd, fpaths] using HR.out)⟩
      case round =>
        clear HR
        obtain ⟨m, out, hm, rfl, HR⟩ := hrel
        obtain ⟨b, off, hA, he⟩ := (HD.out.row.below HR.out.bel).elem pk_len k p HP.out
        have e0 := he 0 _ rfl
        have e7 := he 7 _ rfl
        simp only [Nat.add_zero] at e0
        have hix := fun W => idx_of (T := 40) (E := 27) (sz := 9) (c := c) Tryz.underlying40 rfl Tryz.sizeOf27 hA hlt W
        have hbl : b < w.heap.size := by
          obtain ⟨b2, off2, hA2, he2⟩ := HD.out.row.elem pk_len k p HP.out
          have h2 := World.block_lt_of_cell? _ _ (he2 0 _ rfl)
          rw [hA] at hA2; injection hA2 with hA2; injection hA2 with h3 _ _
          subst h3; exact h2
        clear hA he
        by_cases hml : m < p.files.length
        · obtain ⟨x, hx⟩ : ∃ x, p.files[m]? = some x := ⟨_, List.getElem?_eq_getElem hml⟩
          obtain ⟨b', off', hA, he⟩ := ((HD.out.all p HPM.out).below HR.out.bel).files.elem file_len m x hx
          have e0' := he 0 _ rfl
          simp only [Nat.add_zero] at e0'
          have hix' := fun W => idx_of (T := 24) (E := 46) (sz := 8) (c := p.fc) Tryz.underlying24 rfl Tryz.sizeOf46 hA hml W
          have HX := Lib.hid hx
          clear hx hA he
          have hcap : m ≤ p.fc := by have := HC.out p HPM.out; omega
          have hsl := fun W => slice_to (T := 24) (E := 46) (sz := 8) (A := p.fa) (n := p.files.length) (c := p.fc) (k := m) Tryz.underlying24 rfl Tryz.sizeOf46 hcap W
          go_wp2_with fail
          refine (ref_Find_at p.fa p.fc m (p.files.take m) (Lib.hid (by simp; omega)) x.path _ (((HD.out.all p HPM.out).below HR.out.bel).files.take file_len m) (by simp; omega)).mono ?_
          rintro e w' ⟨n, rfl, n0, n1, HFI, rfl⟩
          have HFI := Lib.hid HFI.neg
          clear hsl hix' e0' e7
          by_cases hn : 0 ≤ n
          · have HIN : Hid (x.path ∈ fpaths (p.files.take m)) := Lib.hid (Classical.byContradiction (fun h => by have := HFI.out.2 h; omega))
            have HPS : Hid (prs (l.take k) ++ pPrs (p.files.take (m + 1)) p.nm = prs (l.take k) ++ pPrs (p.files.take m) p.nm) := by show _ = _; rw [pPrs_snoc HX.out, if_pos HIN.out]
            go_wp2_with fail
            go_roundw
            case rel => exact ⟨m + 1, out, by omega, by go_num, Lib.hid (by rw [HPS.out]; exact HR.out)⟩
            case measure => simp [intOf]; omega
          · have HIN : Hid (x.path ∉ fpaths (p.files.take m)) := HFI.out.1 (by omega)
            have HPS : Hid (prs (l.take k) ++ pPrs (p.files.take (m + 1)) p.nm = prs (l.take k) ++ pPrs (p.files.take m) p.nm ++ [(x.path, p.nm)]) := by show _ = _; rw [pPrs_snoc HX.out, if_neg HIN.out, List.append_assoc]
            obtain ⟨Ao, co, rfl⟩ := owns_form HR.out.row
            clear HFI
            have PSL : Hid ((prs (l.take k) ++ pPrs (p.files.take m) p.nm).length ≤ 100000) := by
              show _ ≤ _
              have h1 := prs_length l
              have h2 : (prs (l.take k) ++ pPrs p.files p.nm).length ≤ (prs l).length := by rw [← prs_snoc HP.out]; exact prs_take_length l (k + 1)
              have h3 : (pPrs (p.files.take m) p.nm).length ≤ (pPrs p.files p.nm).length := pPrs_take_length p.files p.nm m
              have := HW.out
              rw [List.length_append] at *; omega
            have ol : out.length ≤ 100000 := by
              have h0 := HR.out.own.length_le
              rw [List.length_map] at h0
              have := PSL.out; omega
            go_upto_block 4 with (fail)
            go_cut [7] (fun s7 wx => ∃ a : Nat, s7 = .int .i64 a ∧ a ≤ out.length ∧ Hid (∀ (i : Nat) (y : OwL), out[i]? = some y → i < a → bl y.path < bl x.path) ∧ Hid (∀ y, out[a]? = some y → ¬ bl y.path < bl x.path) ∧ wr = wx)
            case first =>
              go_wp2_with fail
              go_loop [7] (fun i => ∃ a : Nat, a ≤ out.length ∧ i = .int .i64 a ∧ Hid (∀ (i : Nat) (y : OwL), out[i]? = some y → i < a → bl y.path < bl x.path)) (fun i => out.length - (intOf i).toNat)
              case atStart => exact ⟨0, Nat.zero_le _, rfl, Lib.hid (fun i y _ hi => by omega)⟩
              case round =>
                obtain ⟨a, ha, rfl, HL⟩ := hrel
                by_cases hal : a < out.length
                · obtain ⟨y, hy⟩ : ∃ y, out[a]? = some y := ⟨_, List.getElem?_eq_getElem hal⟩
                  obtain ⟨g, og, hA, he⟩ := (owns_rd HR.out.row).elem owl_len a y hy
                  have q0 := he 0 _ rfl
                  simp only [Nat.add_zero] at q0
                  have hiy := fun W => idx_of (T := 52) (E := 55) (sz := 2) (c := co) Tryz.underlying52 rfl Tryz.sizeOf55 hA hal W
                  have HY := Lib.hid hy
                  clear hy hA he
                  cases hlt2 : Op.bytesLess y.path.toList x.path.toList
                  · go_wp2_with fail
                    go_meet
                    exact ⟨a, rfl, ha, HL, Lib.hid (fun z hz => by rw [HY.out] at hz; injection hz with hz; subst hz; exact fun h => by rw [(less_bl _ _).2 h] at hlt2; cases hlt2), rfl⟩
                  · go_wp2_with fail
                    go_round
                    case rel => exact ⟨a + 1, by omega, by go_num, Lib.hid (fun i z hz hi => by
                      by_cases hia : i = a
                      · subst hia; rw [HY.out] at hz; injection hz with hz; subst hz; exact (less_bl _ _).1 hlt2
                      · exact HL.out i z hz (by omega))⟩
                    case measure => simp [intOf]; omega
                · go_wp2_with fail
                  go_meet
                  exact ⟨a, rfl, ha, HL, Lib.hid (fun y hy => by rw [List.getElem?_eq_none (by omega)] at hy; cases hy), rfl⟩
            case rest =>
              obtain ⟨a, rfl, ha, HL, HGE, rfl⟩ := hcut
              go_upto_region 13 with (fail)
              go_cut [71] (fun s71 wx => ∃ bb : Bool, s71 = .bool bb ∧ Hid (bb = true → ∀ y, out[a]? = some y → y.path ≠ x.path) ∧ Hid (bb = false → ∃ y, out[a]? = some y ∧ y.path = x.path) ∧ wr = wx)
              case first =>
                by_cases hal : a < out.length
                · obtain ⟨y, hy⟩ : ∃ y, out[a]? = some y := ⟨_, List.getElem?_eq_getElem hal⟩
                  obtain ⟨g, og, hA, he⟩ := (owns_rd HR.out.row).elem owl_len a y hy
                  have q0 := he 0 _ rfl
                  simp only [Nat.add_zero] at q0
                  have hiy := fun W => idx_of (T := 52) (E := 55) (sz := 2) (c := co) Tryz.underlying52 rfl Tryz.sizeOf55 hA hal W
                  have HY := Lib.hid hy
                  clear hy he hA
                  have hne : ((a : Int) == (out.length : Int)) = false := by simp; omega
                  go_wp2_with fail
                  go_meet
                  exact ⟨_, rfl, Lib.hid (fun h z hz => by rw [HY.out] at hz; injection hz with hz; subst hz; rw [beq_bl] at h; simpa using h), Lib.hid (fun h => ⟨y, HY.out, by rw [beq_bl] at h; simpa using h⟩), rfl⟩
                · have hne : ((a : Int) == (out.length : Int)) = true := by simp; omega
                  go_wp2_with fail
                  go_meet
                  exact ⟨true, rfl, Lib.hid (fun _ z hz => by rw [List.getElem?_eq_none (by omega)] at hz; cases hz), Lib.hid (fun h => by cases h), rfl⟩
              case rest =>
              obtain ⟨bb, rfl, HB1, HB2, rfl⟩ := hcut
              go_upto_if 71 with (fail)
              go_cut [3] (fun s3 wx => ∃ (g cap N : Nat) (pre post : List OwL) (y : OwL), s3 = .slice (some ⟨g, 0, none⟩) N cap ∧ Hid (pre.length = a) ∧ Hid (RMid w wx (.slice (some ⟨g, 0, none⟩) N cap) (prs (l.take k) ++ pPrs (p.files.take m) p.nm) x.path pre y post) ∧ Hid (N = (pre ++ y :: post).length) ∧ y.names.length ≤ 100001)
              case first =>
                cases bb
                · obtain ⟨y, hy, hyp⟩ := HB2.out rfl
                  have hal : a < out.length := (List.getElem?_eq_some_iff.1 hy).1
                  obtain ⟨g, cap, hv, _, _⟩ := HR.out.row.form (by omega)
                  obtain ⟨rfl, rfl⟩ : Ao = some ⟨g, 0, none⟩ ∧ co = cap := by injection hv with h1 _ h2; exact ⟨h1, h2⟩
                  have HM : Hid (RMid w wr (.slice (some ⟨g, 0, none⟩) out.length co) (prs (l.take k) ++ pPrs (p.files.take m) p.nm) y.path (out.take a) y (out.drop (a + 1))) := HR.out.found hy
                  have HE : Hid ((out.take a ++ y :: out.drop (a + 1)).length = out.length) := by show _ = _; simp; omega
                  have HYP := Lib.hid hyp; have HY := Lib.hid hy
                  clear hv hy hyp
                  go_wp2_with fail
                  go_meet
                  refine ⟨g, co, out.length, out.take a, out.drop (a + 1), y, rfl, Lib.hid (by simp; omega), by rw [← HYP.out]; exact HM, Lib.hid HE.out.symm, ?_⟩
                  have h1 := HR.out.own.names (OwL.pair y) (List.mem_map.2 ⟨y, List.mem_of_getElem? HY.out, rfl⟩)
                  simp only [OwL.pair] at h1
                  rw [h1]; exact Nat.le_trans (nms_length _ _) (by have := PSL.out; omega)
                · have hsl1 := fun W => slice_to (T := 52) (E := 55) (sz := 2) (A := Ao) (n := out.length) (c := co) (k := a) Tryz.underlying52 rfl Tryz.sizeOf55 (by have := owns_cap HR.out.row; omega) W
                  have hsl2 := fun W => slice_from (T := 52) (E := 55) (sz := 2) (A := Ao) (n := out.length) (c := co) (k := a) Tryz.underlying52 rfl Tryz.sizeOf55 (by omega) W
                  obtain ⟨Bd, hBd⟩ : ∃ Bd, Bd = (if co = a then Ao else Ao.map (·.add (a * 2))) := ⟨_, rfl⟩
                  rw [← hBd] at hsl2
                  have RD1 : Hid (Reads wr wr.heap.size 2 Ao a ((out.take a).flatMap OwL.cells)) := by
                    have h := ((owns_rd HR.out.row).take owl_len a).reads (by omega)
                    rw [show (out.take a).length = a by simp; omega] at h; exact h
                  have RD2 : Hid (Reads wr wr.heap.size 2 Bd (out.length - a) ((out.drop a).flatMap OwL.cells)) := by
                    have h := ((owns_rd HR.out.row).reads (by omega)).cut (k := a) (cap := co) ha (owns_cap HR.out.row)
                    rw [← hBd, flat_drop owl_len] at h; exact h
                  have HBD := Lib.hid hBd; clear hBd
                  obtain ⟨i1, hi1, hy0, hy1, hy2⟩ := info_parts info_Owned
                  go_upto_region 16 with (at_builtin; refine wpList_append_any _ rfl _ _ _ rfl wr.heap.size 55 i1 _ 2 40 Tryz.underlying52 hi1 hy0 hy1 hy2 rfl (by omega) (.slice none 0 0) 0 [] rfl (World.ownsRow_nil _ _ _ _) wr.heap.size Ao a co ((out.take a).flatMap OwL.cells) rfl RD1.out (one_flat one_owl _) (by simp only [maxLen]; omega) (by omega) (Nat.le_refl _) ?_; intro v1 w1 o1 g1 a1)
                  simp only [Nat.zero_add, List.nil_append] at o1
                  obtain ⟨A1, c1, rfl⟩ := owns_form o1
                  have O1 := Lib.hid o1
                  have BL1 : Hid (Below wr.heap.size wr w1) := (Below.refl _ _).grown g1 (Nat.le_refl _) (fun j hj => by cases hj)
                  clear o1 g1 a1
                  go_upto_region 17 with (at_builtin; refine wpList_append_any _ rfl _ _ _ rfl wr.heap.size 55 i1 _ 2 40 Tryz.underlying52 hi1 hy0 hy1 hy2 rfl (by omega) (.slice A1 a c1) a _ rfl (O1.out.alloc _) (w1.heap.size + 1) (some ⟨w1.heap.size, 0, none⟩) 1 1 [.string x.path, .slice none 0 0] rfl (reads_new2 w1 _ _) (by simp [Value.oneCell']) (by simp only [maxLen]; omega) (by omega) (by simp; have := BL1.out.size; omega) ?_; intro v2 w2 o2 g2 a2)
                  obtain ⟨A2, c2, rfl⟩ := owns_form o2
                  have O2 := Lib.hid o2
                  have BL2 : Hid (Below wr.heap.size wr w2) := ((BL1.out.alloc BL1.out.size _).grown g2 (by simp; have := BL1.out.size; omega) (fun j hj => (O1.out.lt j hj).1))
                  clear o2 g2 a2
                  go_wp2_with (at_builtin; refine wpList_append_any _ rfl _ _ _ rfl wr.heap.size 55 i1 _ 2 40 Tryz.underlying52 hi1 hy0 hy1 hy2 rfl (by omega) (.slice A2 (a + 1) c2) (a + 1) _ rfl O2.out wr.heap.size Bd (out.length - a) (co - a) ((out.drop a).flatMap OwL.cells) rfl (RD2.out.below BL2.out) (one_flat one_owl _) (by simp only [maxLen]; omega) (by omega) BL2.out.size ?_; intro v3 w3 o3 g3 a3)
                  have BL3 : Below wr.heap.size wr w3 := BL2.out.grown g3 BL2.out.size (fun j hj => (O2.out.lt j hj).1)
                  rw [show a + 1 + (out.length - a) = out.length + 1 by omega] at o3
                  obtain ⟨g, cap, rfl, _, _⟩ := o3.form (by omega)
                  have HM := HR.out.fresh ha HL.out (fun z hz => ⟨HGE.out z hz, (by first | exact HB1.out rfl z hz | exact HB1.out trivial z hz)⟩) (owns_base o3 HR.out.bel.size) BL3
                  have HE : (out.take a ++ (⟨x.path, none, 0, []⟩ : OwL) :: out.drop a).length = out.length + 1 := by simp; omega
                  go_meet
                  exact ⟨g, cap, out.length + 1, out.take a, out.drop a, ⟨x.path, none, 0, []⟩, rfl, Lib.hid (by simp; omega), HM, Lib.hid HE.symm, by simp⟩
              case rest =>
                obtain ⟨g, cap, N, pre, post, y, rfl, HPA, HM, HN, hN2⟩ := hcut
                obtain ⟨i0, hi0, hz0, hz1, hz2⟩ := info_parts info_str
                have e1 : wc.cell? ⟨b, off + k * 9, none⟩ = some (.string p.nm) := (HM.out.bel.cell (p := ⟨b, off + k * 9, none⟩) hbl).trans ((HR.out.bel.cell (p := ⟨b, off + k * 9, none⟩) hbl).symm.trans e0)
                clear e0
                have hpl : a < N := by have h1 := HPA.out; have h2 := HN.out; simp at h2; omega
                have hpl0 : (0 : Int) ≤ (a : Int) := by omega
                have hpl1 : (a : Int) < (N : Int) := by omega
                have HMR : Hid (wc.ownsRow w.heap.size 55 2 (.slice (some ⟨g, 0, none⟩) N cap) N ((pre ++ y :: post).flatMap OwL.cells)) := by have := HM.out.row; rw [← HN.out] at this; exact this
                have hgl := (HMR.out.lt g rfl).2
                have hgw := (HMR.out.lt g rfl).1
                have cN : wc.cell? ⟨g, a * 2 + 1, none⟩ = some (.slice y.na y.names.length y.nc) := by
                  rw [HMR.out.cellAt (a * 2 + 1) (by omega), flat_at owl_len (pre ++ y :: post) a 1 y (by rw [← HPA.out]; simp) (by omega)]
                  rfl
                have hix2 := fun W => idx_of (T := 52) (E := 55) (sz := 2) (c := cap) Tryz.underlying52 rfl Tryz.sizeOf55 (A := some ⟨g, 0, none⟩) rfl hpl W
                simp only [Nat.zero_add] at hix2
                have HNY : Hid (wc.ownsRow w.heap.size 9 1 (.slice y.na y.names.length y.nc) y.names.length (strCells y.names)) := HM.out.names y (by simp)
                have NG : Hid (some g ≠ (Value.slice y.na y.names.length y.nc).ownBlock) := by
                  rcases rows_apart HMR.out HNY.out (by decide) with h0 | h0
                  · simp [Value.ownBlock] at h0
                  · exact h0
                have NB : Hid (some b ≠ (Value.slice y.na y.names.length y.nc).ownBlock) := by
                  intro he; have := (HNY.out.lt b he.symm).1; omega
                have hzw : w.heap.size ≤ wc.heap.size := HM.out.bel.size
                have CN : Hid ((wc.alloc (.cells #[.string p.nm] 9)).drew.cell? ⟨g, a * 2 + 1, none⟩ = some (.slice y.na y.names.length y.nc)) := (World.cell?_alloc_lt wc _ ⟨g, a * 2 + 1, none⟩ hgl).trans cN
                have CB : Hid ((wc.alloc (.cells #[.string p.nm] 9)).drew.cell? ⟨b, off + k * 9, none⟩ = some (.string p.nm)) := (World.cell?_alloc_lt wc _ ⟨b, off + k * 9, none⟩ (by show b < wc.heap.size; omega)).trans e1
                have FZ : Hid ((wc.alloc (.cells #[.string p.nm] 9)).drew.frozen? ⟨g, a * 2 + 1, none⟩ = false) := ((HMR.out.alloc _).drew).frozenAt (a * 2 + 1)
                have HGB : Hid (b ≠ g) := by intro he; omega
                go_wp2_with fail
                have hn3 : ¬ g = wc.heap.size := by omega
                have hn4 : ¬ b = wc.heap.size := by omega
                have hn5 : b < wc.heap.size := by omega
                go_region_law
                  ((refine step_append_any _ (by rfl) _ _ _ (by rfl) w.heap.size 9 i0 _ 1 16 Tryz.underlying22 hi0 hz0 hz1 hz2 rfl (by omega) (.slice y.na y.names.length y.nc) _ _ (by rfl) ((HNY.out.alloc _).drew)
                      (wc.heap.size + 1) (some ⟨wc.heap.size, 0, none⟩) 1 1 [.string p.nm] (by rfl) (reads_new1 wc p.nm) (by simp [Value.oneCell']) (by unfold maxLen; omega) (by omega) (by simp; omega) ?_
                    intro v1 w2 hown2 hg2 hat2
                    obtain ⟨na1, nc1, rfl⟩ := owns_form hown2
                    have cN2 : w2.cell? ⟨g, a * 2 + 1, none⟩ = some (.slice y.na y.names.length y.nc) := hg2.cell CN.out NG.out
                    have fz2 : w2.frozen? ⟨g, a * 2 + 1, none⟩ = false := (World.frozen?_of_block (a := ⟨g, a * 2 + 1, none⟩) (hg2.block g (by simp; omega) NG.out)).trans FZ.out))
                all_goals
                  have FIN := Lib.hid (rmid_step (nm := p.nm) HPA.out HN.out HM.out (only_drewN (World.grownBy_alloc wc (.cells #[.string p.nm] 9) none) 1) hown2 hg2 hat2)
                  clear hown2 hg2 hat2 cN2 fz2 cN e1 hix2 hix
                  go_wp2_with fail
                  go_roundw
                  case rel => exact ⟨m + 1, _, by omega, by go_num, Lib.hid (by rw [HPS.out]; exact FIN.out)⟩
                  case measure => simp [intOf]; omega
        · go_wp2_with fail
          go_roundw
          case rel => exact ⟨k + 1, out, by omega, by go_num, Lib.hid (by have := HR.out; rw [List.take_of_length_le (l := p.files) (by omega)] at this; rw [prs_snoc HP.out]; exact this)⟩
          case measure => simp [intOf]; omega
    · go_wp2_with fail
      go_ret
      have h := HR.out
      rw [List.take_of_length_le (by omega)] at h
      obtain ⟨Ao, co, rfl⟩ := owns_form h.row
      exact ⟨Ao, co, out, rfl, owns_rd h.row, fun x hx => owns_rd (h.names x hx), h.own, h.bel⟩
end Go.Proofs.YtdfdllbebfoggaaGreatDoor
