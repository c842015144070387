/- A part of the proof that the digests of any content are the three of it, and that an installed set is new memory. No condition. -/
import Derived.ChangeAlike
import Derived.Deep.RegionLaw
import Derived.Lib.SplitLaws
import Derived.Shelf.Strings.SlTrimAscii
import Derived.Test.YtlhchpeecfbgnaaGreatDoorG05
import Derived.Test.YtlhchpeecfbgnaaGreatDoorG06
import Derived.Test.YtlhchpeecfbgnaaGreatDoorG07
import Derived.Test.YtlhchpeecfbgnaaGreatDoorG08
import Derived.Test.YtlhchpeecfbgnaaGreatDoorG12
import Derived.Test.YtlhchpeecfbgnaaGreatDoorG14
set_option maxRecDepth 100000
set_option maxHeartbeats 20000000
set_option linter.unusedVariables false
set_option linter.unusedSimpArgs false
namespace Go.Proofs.YtlhchpeecfbgnaaGreatDoor
section
open Go.RowKit
structure Pc where
  kind : Int
  text : List UInt8
  word : Int
def Pc.cells (x : Pc) : List Value := [.int .i64 x.kind, .string ⟨x.text.toArray⟩, .int .i64 x.word]
theorem pc_len (x : Pc) : x.cells.length = 3 := rfl
def aWords : List (List UInt8) := [[97, 108, 112, 104, 97], [98, 101, 116, 97], [112, 114, 101], [114, 99], [99, 118, 115], [115, 118, 110], [103, 105, 116], [104, 103], [112]]
def ixOf : List (List UInt8) → List UInt8 → Option Nat
  | [], _ => none
  | a :: r, x => if a = x then some 0 else (ixOf r x).map (· + 1)
def wordIx (l : List UInt8) : Option Nat := ixOf aWords l
def numsA : Nat → Int → List Pc → List UInt8 → Option (List Pc × List UInt8)
  | 0, _, _, _ => none
  | k + 1, kind, acc, l => if runN digB l = 0 then none else match l.drop (runN digB l) with
    | 46 :: r => numsA k 6 (acc ++ [⟨kind, l.take (runN digB l), 0⟩]) r
    | r => some (acc ++ [⟨kind, l.take (runN digB l), 0⟩], r)
def lettA (acc : List Pc) (l : List UInt8) : List Pc × List UInt8 := match l with
  | c :: r => if smlB c = true then (acc ++ [⟨5, [c], 0⟩], r) else (acc, l)
  | [] => (acc, [])
def sufsA : Nat → List Pc → List UInt8 → Option (List Pc × List UInt8)
  | 0, _, _ => none
  | k + 1, acc, l => match l with
    | 95 :: r => match wordIx (r.take (runN smlB r)) with
      | none => none
      | some wd => sufsA k (acc ++ [⟨if 4 ≤ wd then 4 else 0, r.take (runN smlB r), wd⟩] ++ (if 0 < runN digB (r.drop (runN smlB r)) then [⟨3, (r.drop (runN smlB r)).take (runN digB (r.drop (runN smlB r))), 0⟩] else [])) ((r.drop (runN smlB r)).drop (runN digB (r.drop (runN smlB r))))
    | l => some (acc, l)
def endA (l : List UInt8) (acc : List Pc) (r : List UInt8) : Option (List Pc × List UInt8 × List UInt8) := match r with
  | [] => some (acc ++ [⟨1, [], 0⟩], l, [])
  | 45 :: 114 :: t => if numB t = true then some (acc ++ [⟨2, t, 0⟩] ++ [⟨1, [], 0⟩], l.take (l.length - r.length), t) else none
  | _ => none
def apkA (l : List UInt8) : Option (List Pc × List UInt8 × List UInt8) := match numsA (l.length + 1) 7 [] l with
  | none => none
  | some (a, r) => match sufsA ((lettA a r).2.length + 1) (lettA a r).1 (lettA a r).2 with
    | none => none
    | some (b, t) => endA l b t
structure PSt (w wr : World) (ps : List Pc) (r : ByteArray) : Prop where
  lcell : ∃ A c, wr.cell? ⟨w.heap.size, 0, none⟩ = some (.slice A ps.length c) ∧ wr.ownsRow (w.heap.size + 2) 238 3 (.slice A ps.length c) ps.length (ps.flatMap Pc.cells)
  lfree : wr.frozen? ⟨w.heap.size, 0, none⟩ = false
  rcell : wr.cell? ⟨w.heap.size + 1, 0, none⟩ = some (.string r)
  rfree : wr.frozen? ⟨w.heap.size + 1, 0, none⟩ = false
  bel : Below w.heap.size w wr
  sz : w.heap.size + 2 ≤ wr.heap.size
theorem info_piece : (Tryz.prog.info? 238).map (fun i => (i.zero, i.size, i.bytes)) = some (some (.agg #[.int .i64 0, .string ⟨#[]⟩, .int .i64 0]), 3, 32) := by kernel_rfl
theorem reads_new3 (w : World) (t : TypeId) (x y z : Value) : Reads (w.alloc (.cells #[x, y, z] t)).drew (w.heap.size + 1) 3 (some ⟨w.heap.size, 0, none⟩) 1 [x, y, z] := by
  refine ⟨rfl, fun _ => ⟨_, rfl, by simp, fun j u hu => ?_⟩⟩
  match j, hu with
  | 0, hu => simp at hu; subst hu; simp [Addr.add]
  | 1, hu => simp at hu; subst hu; simp [Addr.add]
  | 2, hu => simp at hu; subst hu; simp [Addr.add]
  | j + 3, hu => simp at hu
theorem PSt.setRest {w wr : World} {ps : List Pc} {r : ByteArray} (h : PSt w wr ps r) (t : ByteArray) : PSt w (wr.setCell ⟨w.heap.size + 1, 0, none⟩ (.string t)) ps t := by
  obtain ⟨⟨A, c, h1, h2⟩, h3, h4, h5, h6, h7⟩ := h
  have hg : wr.grownBy (wr.setCell ⟨w.heap.size + 1, 0, none⟩ (.string t)) (some (w.heap.size + 1)) := only_setCell (World.grownBy.refl wr (some (w.heap.size + 1))) (.inl rfl) _
  refine ⟨⟨A, c, hg.cell h1 (by simp), h2.kept hg ?_⟩, ?_, ?_, ?_, h6.grown hg h6.size (fun j hj => by injection hj with hj; omega), Nat.le_trans h7 hg.size⟩
  · cases hq : (Value.slice A ps.length c).ownBlock with
    | none => exact .inl rfl
    | some q => right; intro he; injection he with he; have := (h2.lt q hq).1; omega
  · rw [World.frozen?_setCell]; exact h3
  · exact World.cell?_setCell_same' _ _ _ (by rw [h4]; rfl)
  · rw [World.frozen?_setCell]; exact h5
theorem pieces_take (w : World) (kind : Int) (n : Nat) (ps : List Pc) (r : ByteArray) (wr : World) (hn : n ≤ r.size) (hr : r.size ≤ 64) (hps : ps.length ≤ 1000) (hP : PSt w wr ps r) :
    Calls Tryz.prog 165 #[.int .i64 kind, .int .i64 n, .pointer (some ⟨w.heap.size, 0, none⟩), .pointer (some ⟨w.heap.size + 1, 0, none⟩)] wr fun e w' => e = .returned (.tuple #[]) ∧ PSt w w' (ps ++ [⟨kind, (bl r).take n, 0⟩]) (r.extract n r.size) := by
  obtain ⟨i0, hi0, hz0, hz1, hz2⟩ := info_parts info_piece
  obtain ⟨⟨A, c, h1, h2⟩, h3, h4, h5, h6, h7⟩ := hP
  have HO := Lib.hid h2; have HB := Lib.hid h6
  clear h2 h6
  have NL : Hid (some w.heap.size ≠ (Value.slice A ps.length c).ownBlock) := by intro he; have := (HO.out.lt _ he.symm).1; omega
  have NR : Hid (some (w.heap.size + 1) ≠ (Value.slice A ps.length c).ownBlock) := by intro he; have := (HO.out.lt _ he.symm).1; omega
  have i1 : (n : Int) ≤ (r.size : Int) := by omega
  have hl0 : w.heap.size < wr.heap.size := by omega
  have hl1 : w.heap.size + 1 < wr.heap.size := by omega
  go_enter Tryz.func165, Tryz.ntmps165
  go_wp2_with fail
  have hn3 : ¬ w.heap.size = wr.heap.size := by omega
  have hn4 : ¬ w.heap.size + 1 = wr.heap.size := by omega
  have CL : Hid ((wr.alloc (.cells #[.int .i64 kind, .string (r.extract 0 n), .int .i64 0] 238)).drew.cell? ⟨w.heap.size, 0, none⟩ = some (.slice A ps.length c)) := (World.cell?_alloc_lt wr _ ⟨w.heap.size, 0, none⟩ hl0).trans h1
  have FL : Hid ((wr.alloc (.cells #[.int .i64 kind, .string (r.extract 0 n), .int .i64 0] 238)).drew.frozen? ⟨w.heap.size, 0, none⟩ = false) := (((Below.refl _ _).alloc (Nat.le_refl _) _).frozen (p := ⟨w.heap.size, 0, none⟩) hl0).trans h3
  have CR : Hid ((wr.alloc (.cells #[.int .i64 kind, .string (r.extract 0 n), .int .i64 0] 238)).drew.cell? ⟨w.heap.size + 1, 0, none⟩ = some (.string r)) := (World.cell?_alloc_lt wr _ ⟨w.heap.size + 1, 0, none⟩ hl1).trans h4
  have FR : Hid ((wr.alloc (.cells #[.int .i64 kind, .string (r.extract 0 n), .int .i64 0] 238)).drew.frozen? ⟨w.heap.size + 1, 0, none⟩ = false) := (((Below.refl _ _).alloc (Nat.le_refl _) _).frozen (p := ⟨w.heap.size + 1, 0, none⟩) hl1).trans h5
  go_region_law
    ((refine step_append_any _ (by rfl) _ _ _ (by rfl) (w.heap.size + 2) 238 i0 _ 3 32 Tryz.underlying203 hi0 hz0 hz1 hz2 rfl (by omega) (.slice A ps.length c) ps.length _ (by rfl) ((HO.out.alloc _).drew)
        (wr.heap.size + 1) (some ⟨wr.heap.size, 0, none⟩) 1 1 [.int .i64 kind, .string (r.extract 0 n), .int .i64 0] (by rfl) (reads_new3 wr _ _ _ _) (by simp [Value.oneCell']) (by unfold maxLen; omega) (by omega) (by simp; omega) ?_
      intro v1 w2 o2 g2 a2
      obtain ⟨A1, c1, rfl⟩ := owns_form o2
      have cl2 : w2.cell? ⟨w.heap.size, 0, none⟩ = some (.slice A ps.length c) := g2.cell CL.out NL.out
      have fl2 : w2.frozen? ⟨w.heap.size, 0, none⟩ = false := (World.frozen?_of_block (a := ⟨w.heap.size, 0, none⟩) (g2.block w.heap.size (by simp; omega) NL.out)).trans FL.out
      have cr2 : w2.cell? ⟨w.heap.size + 1, 0, none⟩ = some (.string r) := g2.cell CR.out NR.out
      have fr2 : w2.frozen? ⟨w.heap.size + 1, 0, none⟩ = false := (World.frozen?_of_block (a := ⟨w.heap.size + 1, 0, none⟩) (g2.block (w.heap.size + 1) (by simp; omega) NR.out)).trans FR.out))
  all_goals
    go_wp2_with fail
    have P1 : PSt w (w2.setCell ⟨w.heap.size, 0, none⟩ (.slice A1 (ps.length + 1) c1)) (ps ++ [⟨kind, (bl r).take n, 0⟩]) r := by
      have hg : w2.grownBy (w2.setCell ⟨w.heap.size, 0, none⟩ (.slice A1 (ps.length + 1) c1)) (some w.heap.size) := only_setCell (World.grownBy.refl w2 (some w.heap.size)) (.inl rfl) _
      have e1 : (ps ++ [(⟨kind, (bl r).take n, 0⟩ : Pc)]).length = ps.length + 1 := by simp
      have e2 : (ps ++ [(⟨kind, (bl r).take n, 0⟩ : Pc)]).flatMap Pc.cells = ps.flatMap Pc.cells ++ [.int .i64 kind, .string (r.extract 0 n), .int .i64 0] := by
        rw [List.flatMap_append]
        congr 1
        simp only [List.flatMap_cons, List.flatMap_nil, List.append_nil, Pc.cells]
        rw [show (⟨((bl r).take n).toArray⟩ : ByteArray) = r.extract 0 n from by apply bl_inj; rw [bl_mk, bl_take]]
      have b2 : Below w.heap.size w w2 := (below_drewN (HB.out.alloc HB.out.size _) 1).grown g2 (by simp; omega) (fun j hj => by have := (HO.out.lt j hj).1; omega)
      refine ⟨⟨A1, c1, by rw [e1]; exact World.cell?_setCell_same' _ _ _ (by rw [cl2]; rfl), ?_⟩, by rw [World.frozen?_setCell]; exact fl2, hg.cell cr2 (by simp), by rw [World.frozen?_setCell]; exact fr2, b2.grown hg b2.size (fun j hj => by injection hj with hj; omega), ?_⟩
      · rw [e1, e2]
        refine o2.kept hg ?_
        cases hq : (Value.slice A1 (ps.length + 1) c1).ownBlock with
        | none => exact .inl rfl
        | some q => right; intro he; injection he with he; have := (o2.lt q hq).1; omega
      · have z1 := g2.size; have z2 := hg.size; simp at z1; omega
    go_end0
    exact ⟨rfl, P1.setRest _⟩
theorem ixOf_hit (x : List UInt8) : ∀ (l : List (List UInt8)) (k : Nat), (∀ j, j < k → l[j]? ≠ some x) → l[k]? = some x → ixOf l x = some k
  | [], k, _, h => by simp at h
  | a :: r, 0, _, h => by simp at h; simp [ixOf, h]
  | a :: r, k + 1, hn, h => by
    have ha : a ≠ x := fun e => hn 0 (by omega) (by simp [e])
    have := ixOf_hit x r k (fun j hj => by simpa using hn (j + 1) (by omega)) (by simpa using h)
    simp [ixOf, ha, this]
theorem ixOf_miss (x : List UInt8) : ∀ (l : List (List UInt8)), (∀ j : Nat, l[j]? ≠ some x) → ixOf l x = none
  | [], _ => rfl
  | a :: r, hn => by
    have ha : a ≠ x := fun e => hn 0 (by simp [e])
    have := ixOf_miss x r (fun j => by simpa using hn (j + 1))
    simp [ixOf, ha, this]
theorem aWords_at (j : Nat) (h : j < 9) : aWords[j]? = some (bl (vWord j)) := by
  rcases (by omega : j = 0 ∨ j = 1 ∨ j = 2 ∨ j = 3 ∨ j = 4 ∨ j = 5 ∨ j = 6 ∨ j = 7 ∨ j = 8) with rfl | rfl | rfl | rfl | rfl | rfl | rfl | rfl | rfl <;> rfl
theorem wordIx_hit {s : ByteArray} {k : Nat} (hk : k < 9) (hn : ∀ j, j < k → ¬ vWord j = s) (h : vWord k = s) : wordIx (bl s) = some k :=
  ixOf_hit _ _ k (fun j hj => by rw [aWords_at j (by omega)]; intro e; injection e with e; exact hn j hj (bl_inj e)) (by rw [aWords_at k hk, h])
theorem wordIx_miss {s : ByteArray} (hn : ∀ j, j < 9 → ¬ vWord j = s) : wordIx (bl s) = none :=
  ixOf_miss _ _ (fun j => by
    by_cases hj : j < 9
    · rw [aWords_at j hj]; intro e; injection e with e; exact hn j hj (bl_inj e)
    · rw [List.getElem?_eq_none (by simp [aWords]; omega)]; simp)
def wIx (s : ByteArray) : Int := match wordIx (bl s) with | some i => i | none => -1
theorem idx9 (k : Nat) (hk : k < 9) (x : Nat → ByteArray) (w : World) : (Instr.index 269 (.agg #[.string (x 0), .string (x 1), .string (x 2), .string (x 3), .string (x 4), .string (x 5), .string (x 6), .string (x 7), .string (x 8)]) (.int .i64 k)).run Tryz.prog w = .ok (.string (x k)) w := by
  rcases (by omega : k = 0 ∨ k = 1 ∨ k = 2 ∨ k = 3 ∨ k = 4 ∨ k = 5 ∨ k = 6 ∨ k = 7 ∨ k = 8) with rfl | rfl | rfl | rfl | rfl | rfl | rfl | rfl | rfl <;> kernel_rfl
theorem version_wordAt (s : ByteArray) (w : World) (hG : Gl w) :
    Calls Tryz.prog 169 #[.string s] w fun e w' => e = .returned (.int .i64 (wIx s)) ∧ w = w' := by
  have g0 := hG.vwd 0 (by omega)
  have g1 := hG.vwd 1 (by omega)
  have g2 := hG.vwd 2 (by omega)
  have g3 := hG.vwd 3 (by omega)
  have g4 := hG.vwd 4 (by omega)
  have g5 := hG.vwd 5 (by omega)
  have g6 := hG.vwd 6 (by omega)
  have g7 := hG.vwd 7 (by omega)
  have g8 := hG.vwd 8 (by omega)
  clear hG
  go_enter Tryz.func169, Tryz.ntmps169
  go_wp2_with fail
  clear g0 g1 g2 g3 g4 g5 g6 g7 g8
  go_loop [6] (fun i => ∃ k : Nat, k ≤ 9 ∧ i = .int .i64 k ∧ Hid (∀ j, j < k → ¬ vWord j = s)) (fun i => 9 - (intOf i).toNat)
  case atStart => exact ⟨0, by omega, rfl, Lib.hid (fun j hj => by omega)⟩
  case round =>
    obtain ⟨k, hk, rfl, HN⟩ := hrel
    by_cases hlt : k < 9
    · have hix := fun W => idx9 k hlt vWord W
      cases hE : ((vWord k).toList == s.toList)
      · have HNE : Hid (¬ vWord k = s) := by show ¬ _; rw [beq_bl] at hE; exact of_decide_eq_false hE
        go_wp2_with fail
        go_round
        case rel => exact ⟨k + 1, by omega, by go_num, Lib.hid (fun j hj => by
          by_cases e : j = k
          · subst e; exact HNE.out
          · exact HN.out j (by omega))⟩
        case measure => simp [intOf]; omega
      · have HE : Hid (vWord k = s) := by show _ = _; rw [beq_bl] at hE; exact of_decide_eq_true hE
        go_wp2_with fail
        go_ret
        exact ⟨ret_int (by unfold wIx; rw [wordIx_hit hlt HN.out HE.out]), rfl⟩
    · go_wp2_with fail
      go_ret
      exact ⟨ret_int (by unfold wIx; rw [wordIx_miss (fun j hj => HN.out j (by omega))]), rfl⟩
end
end Go.Proofs.YtlhchpeecfbgnaaGreatDoor
