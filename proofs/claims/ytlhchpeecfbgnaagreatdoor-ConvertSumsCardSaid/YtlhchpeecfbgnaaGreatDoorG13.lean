/- A part of the proof that the digests of any content are the three of it, and that an installed set is new memory. No condition. -/
import Derived.Test.YtlhchpeecfbgnaaGreatDoorCards
import Derived.Test.YtlhchpeecfbgnaaGreatDoorTie
import Derived.BigQuiet
import Derived.BigRegion
import Derived.ChangeAlike
import Derived.ChangeSame
import Derived.Deep.CutBlock
import Derived.Deep.DeepCutAuto
import Derived.Deep.DeepHandedRow
import Derived.Deep.DeepWitnessRowRef
import Derived.Deep.Fields
import Derived.Deep.LoopGhost
import Derived.Deep.QuietTactic
import Derived.Deep.RegionLaw
import Derived.Deep.Slices
import Derived.IntWalk
import Derived.LaidHandle
import Derived.Laws.Externs
import Derived.Lay
import Derived.Lib.IndexMore
import Derived.Lib.LaidTab
import Derived.Lib.LastIndexByte
import Derived.Lib.SplitLaws
import Derived.Maps.Own
import Derived.Maps.OwnOps
import Derived.Maps.OwnSet
import Derived.OpenShut
import Derived.ProofKit
import Derived.Shelf.LaysM
import Derived.Shelf.Slices.Turned
import Derived.Shelf.Small.Strs
import Derived.Shelf.Small.Utf8
import Derived.Shelf.Small.Wraps
import Derived.Shelf.Strconv.Itoa0
import Derived.Shelf.Strconv.Itoa1
import Derived.Shelf.Strconv.Itoa2
import Derived.Shelf.Strconv.Itoa3
import Derived.Shelf.Strings.AsciiSet
import Derived.Shelf.Strings.Builder1
import Derived.Shelf.Strings.Builder2
import Derived.Shelf.Strings.BuilderF
import Derived.Shelf.Strings.Count
import Derived.Shelf.Strings.Cut
import Derived.Shelf.Strings.IndexAny
import Derived.Shelf.Strings.IndexAnyAll
import Derived.Shelf.Strings.LastIndex
import Derived.Shelf.Strings.OnBuilder
import Derived.Shelf.Strings.Prefix
import Derived.Shelf.Strings.Runes
import Derived.Shelf.Strings.Search1
import Derived.Shelf.Strings.Search2
import Derived.Shelf.Strings.Search3
import Derived.Shelf.Strings.Shaped
import Derived.Shelf.Strings.SlTrimAscii
import Derived.Shelf.Strings.Split
import Derived.Shelf.Strings.SplitShaped
import Derived.Shelf.Strings.Trim
import Derived.Shelf.Unicode.Decode
import Derived.Shelf.Unicode.DecodeAny
import Derived.Shelf.Unicode.DecodeSlow
import Derived.Sort.KeysCollected
import Derived.StillTailTactics
import Derived.StringKeys
import Derived.WalkLawsBesides
import Derived.WalkSpells
import Derived.Test.YtlhchpeecfbgnaaGreatDoorG00
import Derived.Test.YtlhchpeecfbgnaaGreatDoorG10
import Derived.Test.YtlhchpeecfbgnaaGreatDoorG12
set_option maxRecDepth 100000
set_option maxHeartbeats 20000000
set_option linter.unusedVariables false
set_option linter.unusedSimpArgs false
namespace Go.Proofs.YtlhchpeecfbgnaaGreatDoor
section
open Go.RowKit
theorem Rd.reads {w : World} {sz n : Nat} {A : Option Addr} {xs : List Value} (h : Rd w sz A n xs) (hsz : 0 < sz) : Reads w w.heap.size sz A n xs := by
  refine ⟨h.1, fun hn => ?_⟩
  obtain ⟨b, off, e, hc⟩ := h.2 hn
  have hl : 0 < xs.length := by rw [h.1]; exact Nat.mul_pos hn hsz
  have h0 := hc 0 _ (List.getElem?_eq_getElem hl)
  refine ⟨_, e, World.block_lt_of_cell? _ _ h0, fun j u hu => ?_⟩
  have := hc j u hu
  unfold Addr.add
  split
  · rename_i h; subst h; exact this
  · exact this
def AgainPost (w : World) (E : TypeId) (sz n : Nat) (xs : List Value) (e : Ending) (w' : World) : Prop := ∃ v, e = .returned v ∧ w'.ownsRow w.heap.size E sz v n xs ∧ Below w.heap.size w w'
theorem info_Package : (Tryz.prog.info? 43).map (fun i => (i.zero, i.size, i.bytes)) = some (some (.agg #[.string ⟨#[]⟩, .string ⟨#[]⟩, .string ⟨#[]⟩, .string ⟨#[]⟩, .slice none 0 0, .slice none 0 0, .slice none 0 0, .slice none 0 0, .slice none 0 0]), 9, 184) := by kernel_rfl
theorem again_Package (A : Option Addr) (n c : Nat) (xs : List Value) (w : World) (hr : Rd w 9 A n xs) (h1 : ∀ u ∈ xs, u.oneCell' = true) (hn : n ≤ 100000) :
    Calls Tryz.prog 39 #[.slice A n c] w (AgainPost w 43 9 n xs) := by
  obtain ⟨i0, hi0, hz0, hz1, hz2⟩ := info_parts info_Package
  have HR := Lib.hid hr; clear hr
  have H1 := Lib.hid h1; clear h1
  go_enter Tryz.func39, Tryz.ntmps39
  go_wp2_with (at_builtin; refine wpList_append_any _ rfl (.const (.slice none 0 0)) (.tmp 3) _ rfl w.heap.size 43 i0 _ 9 184 Tryz.underlying23 hi0 hz0 hz1 hz2 rfl (by omega) (.slice none 0 0) 0 [] rfl ⟨by simp, .inl ⟨rfl, rfl⟩⟩ w.heap.size A n c xs rfl (HR.out.reads (by omega)) H1.out (by simp only [maxLen]; omega) (by omega) (Nat.le_refl _) ?_; intro v1 w1 hown1 hg1 hat1)
  go_ret
  exact ⟨v1, rfl, by simpa using hown1, (Below.refl _ _).grown hg1 (Nat.le_refl _) (by simp [Value.ownBlock])⟩
theorem info_str : (Tryz.prog.info? 9).map (fun i => (i.zero, i.size, i.bytes)) = some (some (.string ⟨#[]⟩), 1, 16) := by kernel_rfl
theorem again_str (A : Option Addr) (n c : Nat) (xs : List Value) (w : World) (hr : Rd w 1 A n xs) (h1 : ∀ u ∈ xs, u.oneCell' = true) (hn : n ≤ 100000) :
    Calls Tryz.prog 40 #[.slice A n c] w (AgainPost w 9 1 n xs) := by
  obtain ⟨i0, hi0, hz0, hz1, hz2⟩ := info_parts info_str
  have HR := Lib.hid hr; clear hr
  have H1 := Lib.hid h1; clear h1
  go_enter Tryz.func40, Tryz.ntmps40
  go_wp2_with (at_builtin; refine wpList_append_any _ rfl (.const (.slice none 0 0)) (.tmp 3) _ rfl w.heap.size 9 i0 _ 1 16 Tryz.underlying39 hi0 hz0 hz1 hz2 rfl (by omega) (.slice none 0 0) 0 [] rfl ⟨by simp, .inl ⟨rfl, rfl⟩⟩ w.heap.size A n c xs rfl (HR.out.reads (by omega)) H1.out (by simp only [maxLen]; omega) (by omega) (Nat.le_refl _) ?_; intro v1 w1 hown1 hg1 hat1)
  go_ret
  exact ⟨v1, rfl, by simpa using hown1, (Below.refl _ _).grown hg1 (Nat.le_refl _) (by simp [Value.ownBlock])⟩
theorem info_Atom : (Tryz.prog.info? 32).map (fun i => (i.zero, i.size, i.bytes)) = some (some (.agg #[.string ⟨#[]⟩, .int .i64 0, .string ⟨#[]⟩]), 3, 40) := by kernel_rfl
theorem again_Atom (A : Option Addr) (n c : Nat) (xs : List Value) (w : World) (hr : Rd w 3 A n xs) (h1 : ∀ u ∈ xs, u.oneCell' = true) (hn : n ≤ 100000) :
    Calls Tryz.prog 41 #[.slice A n c] w (AgainPost w 32 3 n xs) := by
  obtain ⟨i0, hi0, hz0, hz1, hz2⟩ := info_parts info_Atom
  have HR := Lib.hid hr; clear hr
  have H1 := Lib.hid h1; clear h1
  go_enter Tryz.func41, Tryz.ntmps41
  go_wp2_with (at_builtin; refine wpList_append_any _ rfl (.const (.slice none 0 0)) (.tmp 3) _ rfl w.heap.size 32 i0 _ 3 40 Tryz.underlying28 hi0 hz0 hz1 hz2 rfl (by omega) (.slice none 0 0) 0 [] rfl ⟨by simp, .inl ⟨rfl, rfl⟩⟩ w.heap.size A n c xs rfl (HR.out.reads (by omega)) H1.out (by simp only [maxLen]; omega) (by omega) (Nat.le_refl _) ?_; intro v1 w1 hown1 hg1 hat1)
  go_ret
  exact ⟨v1, rfl, by simpa using hown1, (Below.refl _ _).grown hg1 (Nat.le_refl _) (by simp [Value.ownBlock])⟩
theorem info_File : (Tryz.prog.info? 67).map (fun i => (i.zero, i.size, i.bytes)) = some (some (.agg #[.string ⟨#[]⟩, .int .i64 0, .int .i64 0, .string ⟨#[]⟩, .string ⟨#[]⟩, .string ⟨#[]⟩, .string ⟨#[]⟩, .bool false]), 8, 104) := by kernel_rfl
theorem again_File (A : Option Addr) (n c : Nat) (xs : List Value) (w : World) (hr : Rd w 8 A n xs) (h1 : ∀ u ∈ xs, u.oneCell' = true) (hn : n ≤ 100000) :
    Calls Tryz.prog 42 #[.slice A n c] w (AgainPost w 67 8 n xs) := by
  obtain ⟨i0, hi0, hz0, hz1, hz2⟩ := info_parts info_File
  have HR := Lib.hid hr; clear hr
  have H1 := Lib.hid h1; clear h1
  go_enter Tryz.func42, Tryz.ntmps42
  go_wp2_with (at_builtin; refine wpList_append_any _ rfl (.const (.slice none 0 0)) (.tmp 3) _ rfl w.heap.size 67 i0 _ 8 104 Tryz.underlying40 hi0 hz0 hz1 hz2 rfl (by omega) (.slice none 0 0) 0 [] rfl ⟨by simp, .inl ⟨rfl, rfl⟩⟩ w.heap.size A n c xs rfl (HR.out.reads (by omega)) H1.out (by simp only [maxLen]; omega) (by omega) (Nat.le_refl _) ?_; intro v1 w1 hown1 hg1 hat1)
  go_ret
  exact ⟨v1, rfl, by simpa using hown1, (Below.refl _ _).grown hg1 (Nat.le_refl _) (by simp [Value.ownBlock])⟩
theorem info_Script : (Tryz.prog.info? 69).map (fun i => (i.zero, i.size, i.bytes)) = some (some (.agg #[.int .i64 0, .string ⟨#[]⟩]), 2, 24) := by kernel_rfl
theorem again_Script (A : Option Addr) (n c : Nat) (xs : List Value) (w : World) (hr : Rd w 2 A n xs) (h1 : ∀ u ∈ xs, u.oneCell' = true) (hn : n ≤ 100000) :
    Calls Tryz.prog 43 #[.slice A n c] w (AgainPost w 69 2 n xs) := by
  obtain ⟨i0, hi0, hz0, hz1, hz2⟩ := info_parts info_Script
  have HR := Lib.hid hr; clear hr
  have H1 := Lib.hid h1; clear h1
  go_enter Tryz.func43, Tryz.ntmps43
  go_wp2_with (at_builtin; refine wpList_append_any _ rfl (.const (.slice none 0 0)) (.tmp 3) _ rfl w.heap.size 69 i0 _ 2 24 Tryz.underlying41 hi0 hz0 hz1 hz2 rfl (by omega) (.slice none 0 0) 0 [] rfl ⟨by simp, .inl ⟨rfl, rfl⟩⟩ w.heap.size A n c xs rfl (HR.out.reads (by omega)) H1.out (by simp only [maxLen]; omega) (by omega) (Nat.le_refl _) ?_; intro v1 w1 hown1 hg1 hat1)
  go_ret
  exact ⟨v1, rfl, by simpa using hown1, (Below.refl _ _).grown hg1 (Nat.le_refl _) (by simp [Value.ownBlock])⟩
end
def decL (n : Nat) : List UInt8 := if n < 10 then [UInt8.ofNat (48 + n)] else decL (n / 10) ++ [UInt8.ofNat (48 + n % 10)]
termination_by n
decreasing_by omega
theorem decL_small {n : Nat} (h : n < 10) : decL n = [UInt8.ofNat (48 + n)] := by rw [decL, if_pos h]
theorem decL_big {n : Nat} (h : ¬ n < 10) : decL n = decL (n / 10) ++ [UInt8.ofNat (48 + n % 10)] := by rw [decL, if_neg h]
def gsplit (c : UInt8) : List UInt8 → List (List UInt8)
  | [] => [[]]
  | a :: r => if a = c then [] :: gsplit c r else ((a :: (gsplit c r).headD []) :: (gsplit c r).tail)
theorem gsplit_ne (c : UInt8) : ∀ l, gsplit c l ≠ []
  | [] => by simp [gsplit]
  | a :: r => by unfold gsplit; split <;> simp
theorem gsplit_no (c : UInt8) : ∀ (l : List UInt8), c ∉ l → gsplit c l = [l]
  | [], _ => rfl
  | a :: r, h => by
    have hc : a ≠ c := fun e => h (by rw [e]; simp)
    rw [gsplit, if_neg hc, gsplit_no c r (fun hm => h (List.mem_cons_of_mem _ hm))]; rfl
theorem gsplit_hit (c : UInt8) : ∀ (l r : List UInt8), c ∉ l → gsplit c (l ++ c :: r) = l :: gsplit c r
  | [], r, _ => by rw [List.nil_append, gsplit, if_pos rfl]
  | a :: t, r, h => by
    have hc : a ≠ c := fun e => h (by rw [e]; simp)
    rw [List.cons_append, gsplit, if_neg hc, gsplit_hit c t r (fun hm => h (List.mem_cons_of_mem _ hm))]; rfl
def joinD (c : UInt8) : List (List UInt8) → List UInt8
  | [] => []
  | [a] => a
  | a :: b :: r => a ++ c :: joinD c (b :: r)
theorem joinD_snoc (c : UInt8) : ∀ (L : List (List UInt8)) (a : List UInt8), joinD c (L ++ [a]) = (if L = [] then [] else joinD c L ++ [c]) ++ a
  | [], a => rfl
  | [b], a => by simp [joinD]
  | b :: d :: r, a => by
    have := joinD_snoc c (d :: r) a
    simp only [List.cons_append] at this ⊢
    rw [joinD, this]
    simp [joinD]
section
open Go.RowKit
theorem map_baOf_bl (l : List ByteArray) : (l.map bl).map (fun p => (⟨p.toArray⟩ : ByteArray)) = l := by
  rw [List.map_map]; conv => rhs; rw [← List.map_id l]
  apply List.map_congr_left; intro a _; apply bl_inj; simp [bl]
def hexL : List UInt8 := [48, 49, 50, 51, 52, 53, 54, 55, 56, 57, 97, 98, 99, 100, 101, 102]
def hexB (l : List UInt8) : Bool := l.all fun c => hexL.contains c
def sumLen (fmt : Int) : Nat := if fmt = 1 then 32 else if fmt = 2 then 64 else 40
def sgB (fmt : Int) (s : ByteArray) : Bool := decide (s.size = sumLen fmt) && hexB (bl s)
structure InstL where
  nm : ByteArray
  ver : ByteArray
  ga : Option Addr
  gc : Nat
  gives : List AtomM
def InstL.cells (x : InstL) : List Value := [.string x.nm, .string x.ver, .slice x.ga x.gives.length x.gc]
theorem inst_len (x : InstL) : x.cells.length = 3 := rfl
structure InstP where
  nm : ByteArray
  ver : ByteArray
  gives : List AtomM
def InstL.plain (x : InstL) : InstP := ⟨x.nm, x.ver, x.gives⟩
structure SetOk (w : World) (A : Option Addr) (l : List InstL) : Prop where
  row : Rd w 3 A l.length (l.flatMap InstL.cells)
  all : ∀ x ∈ l, Rd w 3 x.ga x.gives.length (x.gives.flatMap AtomM.cells)
theorem SetOk.below {w w' : World} {A : Option Addr} {l : List InstL} (h : SetOk w A l) (hb : Below w.heap.size w w') : SetOk w' A l := ⟨h.row.below hb, fun x hx => (h.all x hx).below hb⟩
abbrev isF (a : Int) : Prop := a = 1 ∨ a = 2 ∨ a = 3
def Bld (w : World) (B b : Nat) (l : List UInt8) : Prop := Lib.IsBuilder 223 5 B b (Lib.byteCells l) w
theorem bld_info : (Tryz.prog.info? 223).map (·.size) = some 2 := by kernel_rfl
theorem copyCheck_used (b : Nat) (w : World) (h0 : w.cell? ⟨b, 0, none⟩ = some (.pointer (some ⟨b, 0, none⟩))) :
    Calls Tryz.prog 187 #[.pointer (some ⟨b, 0, none⟩)] w fun e w' => e = .returned (.tuple #[]) ∧ w' = w := by
  obtain ⟨j, hj, _⟩ := Option.map_eq_some_iff.1 bld_info
  go_enter Tryz.func187, Tryz.ntmps187
  go_wp2_with fail
  rw [Lib.run_neq_ptr_same w _ Tryz.underlying221 hj]
  go_wp2_with fail
  go_end0
  exact ⟨rfl, rfl⟩
theorem copyCheck_fresh (b : Nat) (w : World) (h0 : w.cell? ⟨b, 0, none⟩ = some (.pointer none)) (hsh : w.shape? b = some (223, 2)) (hfz : w.frozen? ⟨b, 0, none⟩ = false) :
    Calls Tryz.prog 187 #[.pointer (some ⟨b, 0, none⟩)] w fun e w' => e = .returned (.tuple #[]) ∧ w' = w.setCell ⟨b, 0, none⟩ (.pointer (some ⟨b, 0, none⟩)) := by
  obtain ⟨j, hj, hjs⟩ := Option.map_eq_some_iff.1 bld_info
  go_enter Tryz.func187, Tryz.ntmps187
  go_wp2_with fail
  rw [Lib.run_to_unsafe w ⟨b, 0, none⟩ Tryz.underlying221 Tryz.underlying286 hj (by rw [hjs]; decide) hsh (Nat.zero_lt_succ 1)]
  simp only [Result.andThen]
  rw [Oper.upon_value]
  go_wp2_with fail
  rw [run_callFunc_extern Tryz.func214 (by kernel_rfl) (by kernel_rfl) (by kernel_rfl) (e := Extern.AbiNoEscape.same) (by kernel_rfl)]
  rw [Lib.run_noEscape]
  simp only [Result.andThen]
  rw [Oper.upon_value]
  go_wp2_with fail
  rw [Lib.run_from_unsafe w ⟨b, 0, none⟩ Tryz.underlying286 Tryz.underlying221 hj hsh (by kernel_rfl)]
  simp only [Result.andThen]
  rw [Oper.upon_value]
  go_wp2_with fail
  go_end0
  exact ⟨rfl, rfl⟩
theorem copyCheck_any (B b : Nat) (bs : List Value) (w : World) (h : Lib.IsBuilder 223 5 B b bs w) :
    Calls Tryz.prog 187 #[.pointer (some ⟨b, 0, none⟩)] w fun e w' => e = .returned (.tuple #[]) ∧ (Lib.BuilderAt 223 5 B b (.pointer (some ⟨b, 0, none⟩)) bs w' ∧ Below B w w') := by
  rcases h with h | h
  · refine (copyCheck_fresh b w h.cell0 h.shape h.frozen0).mono ?_
    rintro e w' ⟨rfl, rfl⟩
    exact ⟨rfl, h.used _, (Below.refl B w).setCell (p := ⟨b, 0, none⟩) h.1 _⟩
  · refine (copyCheck_used b w h.cell0).mono ?_
    rintro e w' ⟨rfl, rfl⟩
    exact ⟨rfl, h, Below.refl B _⟩
theorem info_u8v : (Tryz.prog.info? 5).map (fun i => (i.zero, i.size, i.bytes)) = some (some (.int .u8 0), 1, 1) := by kernel_rfl
theorem WriteString_at (B b : Nat) (l : List UInt8) (s : ByteArray) (w : World) (h : Bld w B b l) (hlen : l.length + s.size ≤ 1000000) (hBw : B ≤ w.heap.size) :
    Calls Tryz.prog 151 #[.pointer (some ⟨b, 0, none⟩), .string s] w fun e w' => e = .returned (.tuple #[.int .i64 s.size, .nilIface]) ∧ Bld w' B b (l ++ bl s) ∧ Below B w w' := by
  obtain ⟨i0, hi, hz0, hz1, hz2⟩ := info_parts info_u8v
  have hbl : (Lib.byteCells l).length = l.length := Lib.byteCells_length l
  go_enter Tryz.func151, Tryz.ntmps151
  go_wp2_with fail
  refine (copyCheck_any B b _ _ h).mono ?_
  rintro e w1 ⟨rfl, h1, hb1⟩
  obtain ⟨hB, v, hbk, hown, hne⟩ := h1
  have c0 : w1.cell? ⟨b, 0, none⟩ = some (.pointer (some ⟨b, 0, none⟩)) := by rw [Lib.cell_of_heap hbk]; rfl
  have c1 : w1.cell? ⟨b, 1, none⟩ = some v := by rw [Lib.cell_of_heap hbk]; rfl
  go_wp2_with (at_builtin; refine Lib.wpList_append_own_string _ rfl _ _ 22 9 rfl B 5 i0 Tryz.underlying22 Tryz.underlying9 hi hz0 hz1 hz2 _ _ _ rfl hown s rfl ?c3 ?c4 ?c5 ?_)
  case c3 => unfold maxLen; omega
  case c4 => omega
  case c5 => have := hb1.size; omega
  intro v' w2 hown' hgrow _
  have hlt : b < w1.heap.size := by
    rcases Nat.lt_or_ge b w1.heap.size with h' | h'
    · exact h'
    · simp [Array.getElem?_eq_none h'] at hbk
  have hb2 : w2.heap[b]? = some (.cells #[.pointer (some ⟨b, 0, none⟩), v] 223 (0, 0)) := by
    rw [hgrow.block b hlt (fun e => hne e.symm)]
    exact hbk
  have d0 : w2.cell? ⟨b, 0, none⟩ = some (.pointer (some ⟨b, 0, none⟩)) := by rw [Lib.cell_of_heap hb2]; rfl
  have d1 : w2.cell? ⟨b, 1, none⟩ = some v := by rw [Lib.cell_of_heap hb2]; rfl
  have f1 : w2.frozen? ⟨b, 1, none⟩ = false := Lib.frozen_of_heap hb2 1
  obtain ⟨ao, n', cap, rfl⟩ : ∃ ao n' cap, v' = .slice ao n' cap := by
    rcases hown'.2 with ⟨hv, _⟩ | ⟨g, cap, cur, hv, _⟩
    · exact ⟨_, _, _, hv⟩
    · exact ⟨_, _, _, hv⟩
  go_wp2_with fail
  go_ret2
  have hcat : Lib.byteCells l ++ Lib.strCells s = Lib.byteCells (l ++ bl s) := by
    unfold Lib.byteCells Lib.strCells bl; simp
  refine ⟨rfl, .inr ?_, ?_⟩
  · rw [← hcat]
    exact Lib.BuilderAt.put (T := 223) (e := 5) hB hb2 (bs' := Lib.byteCells l ++ Lib.strCells s) (by simpa [Lib.strCells_length, hbl] using hown') (by decide)
  · exact (hb1.grown hgrow (by have := hb1.size; omega) (fun k hk => (hown.lt k hk).1)).setCell (p := ⟨b, 1, none⟩) hB _
end
section
open Go.RowKit
section
variable {P : Program} (w : World)
theorem run_append_kept (base : Nat) (t ty e : TypeId) (i : TypeInfo) (z : Value) (size bytes : Nat) (ht : P.underlying t = some (.slice e)) (hi : P.info? e = some i) (hz : i.zero = some z)
    (hsize : i.size = size) (hby : i.bytes = bytes) (hzs : z.cells.size = size) (hsz : 0 < size)
    (g n cap : Nat) (xs : List Value) (hn : 0 < n) (hown : w.ownsRow base e size (.slice (some ⟨g, 0, none⟩) n cap) n xs)
    (a : Addr) (m c : Nat) (news : List Value) (hl : news.length = m * size) (hnews : ∀ j u, news[j]? = some u → w.cell? (a.add j) = some u) (h1 : ∀ u ∈ news, u.oneCell' = true)
    (h63 : n + m ≤ maxLen) (hbytes : (n + m) * bytes ≤ 140737488355328) (hbase : base ≤ w.heap.size) :
    ∃ v' w', (Builtin.append_ #[t, t] ty #[.slice (some ⟨g, 0, none⟩) n cap, .slice (some a) m c]).run P w = .ok v' w' ∧ w'.ownsRow base e size v' (n + m) (xs ++ news) ∧ w.grownBy w' (some g) ∧
      ∀ j u, xs[j]? = some u → w'.cell? ⟨g, j, none⟩ = some u := by
  have h63' : n + m ≤ 2 ^ 63 - 1 := h63
  obtain ⟨v', w', hrun, h2, h3, _, h5⟩ := run_append_own_at (P := P) w base t ty e i z size bytes ht hi hz hsize hby hzs hsz _ n xs hown a m c news hl hnews h1 h63 hbytes hbase
  have hga : ∀ j, (⟨g, 0, none⟩ : Addr).add j = ⟨g, j, none⟩ := fun j => by unfold Addr.add; split <;> simp_all
  have hold : ∀ j u, xs[j]? = some u → w.cell? ⟨g, j, none⟩ = some u := fun j u hu => by rw [← hga]; exact hown.cells (g := g) rfl j u hu
  refine ⟨v', w', hrun, h2, h3, fun j u hu => ?_⟩
  obtain ⟨g', cap', rfl, _, _⟩ := h2.form (by omega)
  by_cases hg : g' = g
  · subst hg
    have := h2.cells (g := g') rfl j u (by rw [List.getElem?_append_left (List.getElem?_eq_some_iff.1 hu).1]; exact hu)
    rw [hga] at this
    exact this
  · subst hsize
    subst hby
    have hnr : ¬ n + m ≤ cap := by
      intro hroom
      rcases hown.2 with ⟨hv, _⟩ | ⟨g2, cap2, cur, hv, hbg, hg2, hnc, hcm, hcs, htake⟩
      · cases hv
      · injection hv with hv1 _ hv3
        injection hv1 with hv1
        injection hv1 with hv1
        subst hv1 hv3
        have hr := run_append_room (P := P) w t ty e i ht hi g n cap cur hg2 a m c news hl hnews h1 hroom (by rw [hl, hcs, ← Nat.add_mul]; exact Nat.mul_le_mul_right _ hroom)
        rw [hrun] at hr
        injection hr with hr
        injection hr with hr
        injection hr with hr
        injection hr with hr
        exact hg hr
    have hr := run_append_grow (P := P) w t ty e i z ht hi hz ⟨g, 0, none⟩ n cap xs hown.1 (fun j u hu => by rw [hga]; exact hold j u hu) a m c news hl hnews (by omega) (by omega) (growslice_fits (by omega) hbytes)
    rw [hrun] at hr
    injection hr with _ hr
    rw [hr]
    exact (World.cell?_alloc_lt _ _ _ (hown.lt g rfl).2).trans (hold j u hu)
theorem step_append_kept {ops : Array Oper} {o : Oper} {a : Act} {K : Act → World → Prop} {Q : Exit → Act → World → Prop} {E : Prop} (hgd : o.guard = none) (s x : Operand) (t : TypeId)
    (ho : o.op = .call { callee := .builtin .append, args := #[s, x], argTypes := #[t, t] })
    (base : Nat) (e : TypeId) (i : TypeInfo) (z : Value) (size bytes : Nat) (ht : P.underlying t = some (.slice e)) (hi : P.info? e = some i) (hz : i.zero = some z)
    (hsize : i.size = size) (hby : i.bytes = bytes) (hzs : z.cells.size = size) (hsz : 0 < size)
    (g n cap : Nat) (xs : List Value) (hn : 0 < n) (hs : a.eval s = .slice (some ⟨g, 0, none⟩) n cap) (hown : w.ownsRow base e size (.slice (some ⟨g, 0, none⟩) n cap) n xs)
    (ad : Addr) (m c : Nat) (news : List Value) (hx : a.eval x = .slice (some ad) m c) (hl : news.length = m * size) (hnews : ∀ j u, news[j]? = some u → w.cell? (ad.add j) = some u) (h1 : ∀ u ∈ news, u.oneCell' = true)
    (h63 : n + m ≤ maxLen) (hbytes : (n + m) * bytes ≤ 140737488355328) (hbase : base ≤ w.heap.size)
    (h : ∀ v' w', w'.ownsRow base e size v' (n + m) (xs ++ news) → w.grownBy w' (some g) → (∀ j u, xs[j]? = some u → w'.cell? ⟨g, j, none⟩ = some u) → K (a.put o.dst v') w') :
    if Region.wanted o (yielded ops a.tmps) = true then Oper.wp P o a w K Q else E := by
  have hw : Region.wanted o (yielded ops a.tmps) = true := by simp [Region.wanted, hgd]
  rw [if_pos hw]
  obtain ⟨v', w', hr, h2, h3, h4⟩ := run_append_kept (P := P) w base t o.type e i z size bytes ht hi hz hsize hby hzs hsz g n cap xs hn hown ad m c news hl hnews h1 h63 hbytes hbase
  unfold Oper.wp execOp
  simp only [ho, resolve, invoke, builtin, Sem.run_bind, Sem.run_pure, Result.andThen_ok, List.map_toArray, List.map_cons, List.map_nil, hs, hx, hr]
  exact h v' w' h2 h3 h4
end
end
theorem lt_irr (a : List UInt8) : ¬ a < a := List.lt_irrefl a
theorem lt_tr {a b c : List UInt8} (h : a < b) (k : b < c) : a < c := List.lt_trans h k
theorem lt_of_not {a b : List UInt8} (h : ¬ a < b) (hne : a ≠ b) : b < a := by
  have h1 : b ≤ a := h
  by_cases hb : b < a
  · exact hb
  · exact absurd (List.le_antisymm (show a ≤ b from hb) h1) hne
section
open Go.RowKit
open Classical
def fpaths (l : List FileM) : List ByteArray := l.map (·.path)
end
section
open Go.RowKit Go.Maps
def RV (v : Value) : Option (DataW Value × List MemPlace) := some (.held v, [])
theorem held_inj {a b : Value} (h : (DataW.held a : DataW Value) = .held b) : a = b := by injection h
theorem strKeyed : Keyed Tryz.prog 9 := string_keyed Tryz.underlying9
def kl (s : ByteArray) : Lit := .string s.data.toList
theorem kl_ne {s t : ByteArray} (h : s ≠ t) : kl s ≠ kl t := by
  intro he; apply h; unfold kl at he; injection he with he; exact bl_inj he
def MapIs (w : World) (b n : Nat) (f : ByteArray → Option Value) : Prop :=
  ∃ D : DataW Value, w.ownsMap Tryz.prog 9 RV b n D ∧ ∀ s : ByteArray, s.size ≤ maxLen → (Maps.has D (kl s) = (f s).isSome ∧ ∀ z v, f s = some v → D.atKey (kl s) z = .held v)
theorem MapIs.made (w : World) : MapIs (w.alloc (.map #[] 0)) w.heap.size 0 (fun _ => none) :=
  ⟨.map [], World.ownsMap_made _ _ _ _, fun s _ => ⟨rfl, fun z v h => by cases h⟩⟩
theorem MapIs.below {w w' : World} {b n : Nat} {f : ByteArray → Option Value} (h : MapIs w b n f) (hb : Below w.heap.size w w') : MapIs w' b n f := by
  obtain ⟨D, h1, h2⟩ := h
  exact ⟨D, h1.kept (row := none) ⟨hb.os, hb.tape, hb.output, hb.size, fun i hi _ => hb.block i hi⟩ (by simp), h2⟩
theorem key_of (s : ByteArray) (h : s.size ≤ maxLen) : keyOf Tryz.prog 9 (.string s) = some (kl s) := Go.WideMaps.keyOf_string_mk Tryz.underlying9 h
theorem MapIs.look_ok {w : World} {b n : Nat} {f : ByteArray → Option Value} (h : MapIs w b n f) {t e : TypeId} (ht : Tryz.prog.underlying t = some (.map 9 e)) {z : Value} (hz : ∀ w, (zeroValue e).run Tryz.prog w = .ok z w) (s : ByteArray) (hs : s.size ≤ maxLen) :
    (Instr.lookup t (.map (some b)) (.string s) true).run Tryz.prog w = .ok (.tuple #[(f s).getD z, .bool (f s).isSome]) w := by
  obtain ⟨D, h1, h2⟩ := h
  obtain ⟨v, ps, hrun, hv⟩ := h1.look_ok strKeyed ht (hz w) (show RV z = some (.held z, []) from rfl) (key_of s hs)
  obtain ⟨h3, h4⟩ := h2 s hs
  rw [hrun, h3]
  have : DataW.held v = D.atKey (kl s) (.held z) := congrArg Prod.fst (Option.some.inj hv)
  cases hf : f s with
  | none =>
    rw [hf] at h3
    rw [atKey_of_not_has (by simpa using h3)] at this
    rw [held_inj this]; rfl
  | some u =>
    rw [h4 (.held z) u hf] at this
    rw [held_inj this]; rfl
theorem MapIs.put {w : World} {b n : Nat} {f : ByteArray → Option Value} (h : MapIs w b n f) {t e : TypeId} (ht : Tryz.prog.underlying t = some (.map 9 e)) (hn : n < maxLen) (s : ByteArray) (hs : s.size ≤ maxLen) (v : Value) :
    ∃ w', (Instr.mapUpdate t (.map (some b)) (.string s) v).run Tryz.prog w = .ok () w' ∧ MapIs w' b (n + 1) (fun x => if x = s then some v else f x) ∧ w.grownBy w' (some b) := by
  obtain ⟨D, h1, h2⟩ := h
  obtain ⟨w', hrun, hown, hg⟩ := h1.update strKeyed ht hn (key_of s hs) (show RV v = some (.held v, []) from rfl)
  have hm := (h1.tidy strKeyed).isMap
  refine ⟨w', hrun, ⟨_, hown, fun x hx => ?_⟩, hg⟩
  by_cases hxs : x = s
  · subst hxs
    have hk : WideAt.IsKeyLit (kl x) := trivial
    simp only [if_pos]
    exact ⟨by rw [has_put_same hm hk]; rfl, fun z u hu => by have hu := Option.some.inj hu; subst hu; exact atKey_put_same hm hk _ _⟩
  · simp only [if_neg hxs]
    obtain ⟨h3, h4⟩ := h2 x hx
    exact ⟨by rw [has_put_other (kl_ne hxs)]; exact h3, fun z u hu => by rw [atKey_put_other (kl_ne hxs)]; exact h4 z u hu⟩
end
section
open Go.RowKit
theorem bytesLess_dec : ∀ (x y : List UInt8), Op.bytesLess x y = decide (x < y)
  | [], [] => by simp [Op.bytesLess]
  | _ :: _, [] => by simp [Op.bytesLess]
  | [], _ :: _ => by simp [Op.bytesLess]
  | a :: x, b :: y => by
    rw [Op.bytesLess, bytesLess_dec x y, Bool.eq_iff_iff]
    simp [List.cons_lt_cons_iff]
end
section
open Go.ChangeShapes Go.WideShapes Go.ChangeAt Go.RowKit
theorem own : ownKnob Tryz.prog.godebug = none := by kernel_rfl
def laidAllL : List (String × DataW Unit) := Rows.convertSumsRow.laid
def laidDataL : List (String × DataW Unit) := [("drayage/api.Md5Table", Rows.laid_drayage_api_Md5Table), ("drayage/api.ShaTable", Rows.laid_drayage_api_ShaTable), ("math/bits.deBruijn32tab", Rows.laid_math_bits_deBruijn32tab), ("math/bits.deBruijn64tab", Rows.laid_math_bits_deBruijn64tab), ("internal/strconv.uint64pow10", Rows.laid_internal_strconv_uint64pow10), ("unicode/utf8.acceptRanges", Rows.laid_unicode_utf8_acceptRanges), ("drayage/digest.turns", Rows.laid_drayage_digest_turns), ("drayage/version.words", Rows.laid_drayage_version_words), ("drayage/adep.signs", Rows.laid_drayage_adep_signs), ("drayage/ddep.signs", Rows.laid_drayage_ddep_signs), ("drayage/rdep.signs", Rows.laid_drayage_rdep_signs), ("drayage/rdep.words", Rows.laid_drayage_rdep_words), ("drayage/vmap.pres", Rows.laid_drayage_vmap_pres), ("unicode/utf8.first", Rows.laid_unicode_utf8_first)]
theorem data_of_laid {W : World} (h : laidMetH Tryz.prog laidAllL W) : laidMet Tryz.prog laidDataL W := h.1
noncomputable def laidWorld (os : Os) : World :=
  ({ World.holding Tryz.prog os ⟨#[], #[], []⟩ with heap := (World.holding Tryz.prog os ⟨#[], #[], []⟩).heap.modify 11 fun
      | .cells _ t frozen => .cells #[.iface 318 (.agg #[typeHandle Tryz.prog 225])] t frozen
      | o => o } : World).layVars Tryz.prog laidDataL
theorem laidWorld_os (os : Os) : (laidWorld os).os = os := World.layVars_os _ _ _
theorem wit_data (os : Os) (args : Array Value) : laidMet Tryz.prog laidDataL ((laidWorld os).forCall (fun _ _ => 0) ⟨#[], args, []⟩).memory := by
  have h : laidMet Tryz.prog laidDataL (laidWorld os) := by
    refine laidMet_layVars (w0 := { World.holding Tryz.prog os ⟨#[], #[], []⟩ with heap := (World.holding Tryz.prog os ⟨#[], #[], []⟩).heap.modify 11 fun
      | .cells _ t frozen => .cells #[.iface 318 (.agg #[typeHandle Tryz.prog 225])] t frozen
      | o => o }) (laidDataL.map (·.1)) [] ?_ ?_ ?_ ?_
    · rfl
    · kernel_rfl
    · kernel_rfl
    · exact LaidIn.none
  exact h.of_heap (by simp [World.memory, World.forCall, Input.heap])
theorem wit_laid (os : Os) (args : Array Value) : laidMetH Tryz.prog laidAllL ((laidWorld os).forCall (fun _ _ => 0) ⟨#[], args, []⟩).memory :=
  laidMetH_of_parts (wit_data os args) (by kernel_rfl)
theorem wit_vars (os : Os) (args : Array Value) : ((laidWorld os).forCall (fun _ _ => 0) ⟨#[], args, []⟩).variablesRefB Tryz.prog = true := by kernel_rfl
theorem wit_rest (os : Os) (args : Array Value) : (((laidWorld os).forCall (fun _ _ => 0) ⟨#[], args, []⟩).heap.toList.drop Tryz.prog.globals.size).take ((begin Tryz.prog (fun _ _ => 0) default).world.heap.size - Tryz.prog.globals.size) =
      (begin Tryz.prog (fun _ _ => 0) default).world.heap.toList.drop Tryz.prog.globals.size := by kernel_rfl
end
section
open Go.RowKit Go.WideShapes Go.ChangeShapes
section
variable {H : Type} {enc : TypeId × Value → H} {P : Program}
theorem post_of_below {f : Func} {s : ChangeSpec} {apart fresh handsOn again : Bool} {W W' : World} {args : Array Value} {v : Value} {ds gs : List (DataW H)} {before pa pv : List MemPlace}
    (hW : DataW.Whole enc P f.params.toList s.vars apart W args.toList ds gs before)
    (hres : ∀ (b : Nat) (sp : Nat → Bool) (hd : Bool), DataW.TrodAll enc P W' b sp hd f.resultTypes.toList (v.resultList f.resultTypes.size) (s.fn H (ds ++ gs)).results [])
    (hargs : ∀ sp : Nat → Bool, (∀ p ∈ before, sp p.block = true) → DataW.TrodAll enc P W' 0 sp true f.params.toList args.toList (s.fn H (ds ++ gs)).args pa)
    (hvars : ∀ sp : Nat → Bool, (∀ p ∈ before, sp p.block = true) → DataW.TrodVars enc P W' sp s.vars (s.fn H (ds ++ gs)).vars pv)
    (hps : before = pa ++ pv) (hb : Below W.heap.size W W')
    (hok : ∀ (j : Nat) (t : TypeId) (r : Value), f.resultTypes[j]? = some t → (v.resultList f.resultTypes.size)[j]? = some r → Value.okWide P W' .any 0 t r) :
    s.post enc P f apart fresh handsOn again W args v W' := by
  have hlt : ∀ p ∈ before, p.block < W.heap.size := fun p hp => hW.lt p hp
  have hold : ∀ p ∈ before, (fun b => decide (b < W.heap.size)) p.block = true := fun p hp => by simpa using hlt p hp
  refine ⟨ds, gs, before, [], pa, pv, hW, hres _ _ _, hargs _ hold, hvars _ hold, World.keptBut_mono (fun p hp => ⟨hp, ?_⟩) (hb.frame (· ∈ before)), fun _ => ?_⟩
  · rw [hps, List.mem_append] at hp
    exact Or.inr hp
  · obtain ⟨_, _, _, _, _, hz, hn⟩ := hW
    refine ⟨hok, _, _, ([] ++ pa) ++ pv, ⟨[] ++ pa, pv, trodAll_append (hargs _ (fun _ _ => rfl)) (hres _ _ _), hvars _ (fun _ _ => rfl), rfl, ?_, ?_⟩, ?_⟩
    · intro b off hp
      have hin : MemPlace.cell b off ∈ before := by rw [hps]; simpa using hp
      rw [hb.frozen (hlt _ hin)]
      exact hz b off hin
    · intro ha
      have := hn ha
      rw [hps] at this
      simpa using this
    · intro p hp _
      rw [hps]
      simpa using hp
end
end
section
open Go.ChangeShapes Go.WideShapes Go.Deep Go.RowKit
section
variable {H : Type} {enc : TypeId × Value → H} {P : Program} {w : World} {base : Nat} {spare : Nat → Bool} {held : Bool}
theorem open_slice_fields {t e : TypeId} {fs : Array Field} {fuel : Nat} {cs : List Value} {x : DataW H × List MemPlace} (ht : P.underlying t = some (.slice e)) (he : P.underlying e = some (.struct fs))
    (hone : oneCellFields P fs = true) (hC : P.cellsOf e = fs.size) (h : DataW.trod enc P w base spare held fuel t cs = some x) :
    (cs = [.slice none 0 0] ∧ x = (.nil, [])) ∨
    ∃ (a : Addr) (len cap m : Nat) (D : Nat → DataW H) (Pl : Nat → List MemPlace), cs = [.slice (some a) len cap] ∧ base ≤ a.block ∧ len ≤ cap ∧ cap ≤ maxLen ∧ m = (if spare a.block then cap else len) ∧
      x = (.slice ((List.range len).map D) ((List.range (m - len)).map fun j => D (len + j)), MemPlace.row a (m * fs.size) ++ (List.range m).flatMap Pl) ∧
      ∀ i, i < m → ∃ (ys : List (DataW H × List MemPlace)) (n : Nat), D i = .agg (ys.map (·.1)) ∧ Pl i = ys.flatMap (·.2) ∧ ys.length = fs.size ∧
        ∀ (j : Nat) (f : Field), fs[j]? = some f → ∃ (v : Value) (y : DataW H × List MemPlace), w.cell? (a.add (i * fs.size + j)) = some v ∧ ys[j]? = some y ∧ DataW.trod enc P w base spare held n f.type [v] = some y := by
  rcases open_slice ht h with h0 | ⟨a, len, cap, m, n, D, Pl, hcs, hb, hl, hm, hmm, hx, hi⟩
  · exact .inl h0
  · refine .inr ⟨a, len, cap, m, D, Pl, hcs, hb, hl, hm, hmm, by rw [hC] at hx; exact hx, fun i him => ?_⟩
    obtain ⟨cs', hc, ht'⟩ := hi i him
    rw [hC] at hc
    obtain ⟨ys, n', hn', hy, hlen, hyl, hf⟩ := DataW.trod_struct he ht'
    obtain ⟨_, hcl, hat⟩ := World.cells?_some hc
    simp only [Prod.mk.injEq] at hy
    refine ⟨ys, n', hy.1, hy.2, hyl, fun j f hj => ?_⟩
    obtain ⟨ho, hk⟩ := hone_of hone j f hj
    have hjl : j < fs.size := (Array.getElem?_eq_some_iff.1 hj).1
    have hcell := hat j hjl
    have hv : cs'[j]? = some (cs'[j]'(by omega)) := List.getElem?_eq_getElem (by omega)
    have h1 := hf j f hj
    rw [ho, hk] at h1
    have hone' : (cs'.drop j).take 1 = [cs'[j]'(by omega)] := by
      rw [List.drop_eq_getElem_cons (by omega)]
      rfl
    rw [hone'] at h1
    have hys : ys[j]? = some (ys[j]'(by omega)) := List.getElem?_eq_getElem (by omega)
    refine ⟨_, _, ?_, hys, h1.trans hys⟩
    rw [← Go.Deep.add_add, hcell, hv]
end
theorem list_of {α : Type} {Q : Nat → α → Prop} : ∀ n : Nat, (∀ i, i < n → ∃ x, Q i x) → ∃ l : List α, l.length = n ∧ ∀ (i : Nat) (x : α), l[i]? = some x → Q i x
  | 0, _ => ⟨[], rfl, fun i x h => by simp at h⟩
  | n + 1, h => by
    obtain ⟨l, hl, hq⟩ := list_of n (fun i hi => h i (by omega))
    obtain ⟨x, hx⟩ := h n (by omega)
    refine ⟨l ++ [x], by simp [hl], fun i y hy => ?_⟩
    by_cases hi : i < l.length
    · rw [List.getElem?_append_left hi] at hy; exact hq i y hy
    · rw [List.getElem?_append_right (by omega)] at hy
      have : i = n := by have := (List.getElem?_eq_some_iff.1 hy).1; simp at this; omega
      subst this; rw [hl, Nat.sub_self] at hy; simp at hy; subst hy; exact hx
theorem flat_split {α : Type} {f : α → List Value} {sz : Nat} (hf : ∀ x, (f x).length = sz) (hsz : 0 < sz) (l : List α) (j : Nat) (u : Value) (h : (l.flatMap f)[j]? = some u) : ∃ (i k : Nat) (x : α), l[i]? = some x ∧ k < sz ∧ j = i * sz + k ∧ (f x)[k]? = some u := by
  have hj : j < l.length * sz := by rw [← flat_length hf]; exact (List.getElem?_eq_some_iff.1 h).1
  have hi : j / sz < l.length := Nat.div_lt_of_lt_mul (by rw [Nat.mul_comm]; exact hj)
  have hk : j % sz < sz := Nat.mod_lt _ hsz
  have e : j = j / sz * sz + j % sz := by rw [Nat.mul_comm]; exact (Nat.div_add_mod j sz).symm
  refine ⟨j / sz, j % sz, l[j / sz], List.getElem?_eq_getElem hi, hk, e, ?_⟩
  rw [← flat_at hf l (j / sz) (j % sz) _ (List.getElem?_eq_getElem hi) hk, ← e, h]
theorem addr_flat {w : World} {a : Addr} {n : Nat} {v : Value} (h : w.cell? (a.add n) = some v) : a.add n = ⟨a.block, a.off + n, none⟩ := by
  unfold Addr.add at *
  split at h
  · rename_i h0; subst h0
    simp only [if_pos]
    cases a with | mk b o s =>
      unfold World.cell? at h
      split at h
      · split at h
        · cases h
        · rename_i hs; simp at hs; simp [hs]
      · cases h
  · rename_i h0; rw [if_neg h0]
section
variable {H : Type} {enc : TypeId × Value → H} {w : World} {spare : Nat → Bool}
theorem open_list {T E : TypeId} {fs : Array Field} (hT : Tryz.prog.underlying T = some (.slice E)) (hE : Tryz.prog.underlying E = some (.struct fs)) (hone : oneCellFields Tryz.prog fs = true) (hC : Tryz.prog.cellsOf E = fs.size) (hpos : 0 < fs.size)
    {α : Type} (f : α → List Value) (Pr : α → Prop) (hf : ∀ x, (f x).length = fs.size)
    (hel : ∀ (n : Nat) (vs : Nat → Value), (∀ (j : Nat) (fd : Field), fs[j]? = some fd → ∃ y, DataW.trod enc Tryz.prog w 0 spare true n fd.type [vs j] = some y) → ∃ x : α, Pr x ∧ ∀ j, j < fs.size → (f x)[j]? = some (vs j))
    {fuel : Nat} {v : Value} {d : DataW H × List MemPlace} (h : DataW.trod enc Tryz.prog w 0 spare true fuel T [v] = some d) :
    ∃ (A : Option Addr) (c : Nat) (l : List α), v = .slice A l.length c ∧ Rd w fs.size A l.length (l.flatMap f) ∧ (∀ x ∈ l, Pr x) ∧ l.length ≤ 9223372036854775807 ∧ l.length ≤ c := by
  rcases open_slice_fields hT hE hone hC h with ⟨hcs, _⟩ | ⟨a, len, cap, m, D, Pl, hcs, _, hl, hm, hmm, _, hi⟩
  · injection hcs with hcs _
    exact ⟨none, 0, [], hcs, Rd.nil _ _ _, fun x hx => by simp at hx, Nat.zero_le _, Nat.zero_le _⟩
  · injection hcs with hcs _
    have hlen : len ≤ m := by rw [hmm]; split <;> omega
    have key : ∀ i, i < len → ∃ x : α, Pr x ∧ ∀ j u, (f x)[j]? = some u → w.cell? ⟨a.block, a.off + (i * fs.size + j), none⟩ = some u := by
      intro i hi'
      obtain ⟨ys, n, _, _, hyl, hj⟩ := hi i (by omega)
      have hv : ∀ j, ∃ v, (∀ fd, fs[j]? = some fd → w.cell? (a.add (i * fs.size + j)) = some v ∧ ∃ y, DataW.trod enc Tryz.prog w 0 spare true n fd.type [v] = some y) := by
        intro j
        cases hfd : fs[j]? with
        | none => exact ⟨default, fun fd h => by cases h⟩
        | some fd =>
          obtain ⟨v, y, h1, _, h3⟩ := hj j fd hfd
          exact ⟨v, fun fd' h => by injection h with h; subst h; exact ⟨h1, y, h3⟩⟩
      have hvs : ∃ vs : Nat → Value, ∀ j fd, fs[j]? = some fd → w.cell? (a.add (i * fs.size + j)) = some (vs j) ∧ ∃ y, DataW.trod enc Tryz.prog w 0 spare true n fd.type [vs j] = some y :=
        ⟨fun j => Classical.choose (hv j), fun j fd h => Classical.choose_spec (hv j) fd h⟩
      obtain ⟨vs, hvs⟩ := hvs
      obtain ⟨x, hx, hc⟩ := hel n vs (fun j fd h => (hvs j fd h).2)
      refine ⟨x, hx, fun j u hu => ?_⟩
      have hjs : j < fs.size := by rw [← hf x]; exact (List.getElem?_eq_some_iff.1 hu).1
      have h1 := hc j hjs
      rw [hu] at h1
      have h1 := Option.some.inj h1
      subst h1
      have h2 := (hvs j _ (Array.getElem?_eq_getElem hjs)).1
      rw [addr_flat h2] at h2
      exact h2
    obtain ⟨l, hll, hlq⟩ := list_of len key
    refine ⟨some a, cap, l, by rw [hll]; exact hcs, ⟨flat_length hf l, fun hn => ?_⟩, fun x hx => ?_, by rw [hll]; unfold maxLen at hm; omega, by rw [hll]; exact hl⟩
    · obtain ⟨x0, hx0⟩ : ∃ x, l[0]? = some x := ⟨_, List.getElem?_eq_getElem hn⟩
      obtain ⟨u0, hu0⟩ : ∃ u, (f x0)[0]? = some u := ⟨_, List.getElem?_eq_getElem (by rw [hf]; exact hpos)⟩
      refine ⟨a.block, a.off, ?_, fun j u hu => ?_⟩
      · obtain ⟨ys, n, _, _, _, hj⟩ := hi 0 (by omega)
        obtain ⟨v0, y0, h1, _, _⟩ := hj 0 _ (Array.getElem?_eq_getElem hpos)
        have h2 := addr_flat h1
        simp only [Nat.zero_mul, Nat.zero_add, Addr.add, if_pos, Nat.add_zero] at h2
        rw [← h2]
      · obtain ⟨i, k, x, hx, hk, rfl, hu'⟩ := flat_split hf hpos l j u hu
        exact (hlq i x hx).2 k u hu'
    · obtain ⟨i, hi', rfl⟩ := List.getElem_of_mem hx
      exact (hlq i _ (List.getElem?_eq_getElem hi')).1
theorem open_strs {T E : TypeId} (hT : Tryz.prog.underlying T = some (.slice E)) (hE : Tryz.prog.underlying E = some .string) (hC : Tryz.prog.cellsOf E = 1)
    {fuel : Nat} {v : Value} {d : DataW H × List MemPlace} (h : DataW.trod enc Tryz.prog w 0 spare true fuel T [v] = some d) :
    ∃ (A : Option Addr) (c : Nat) (l : List ByteArray), v = .slice A l.length c ∧ Rd w 1 A l.length (strCells l) ∧ (∀ x ∈ l, x.size ≤ 9223372036854775807) ∧ l.length ≤ 9223372036854775807 ∧ l.length ≤ c := by
  rcases open_slice hT h with ⟨hcs, _⟩ | ⟨a, len, cap, m, n, D, Pl, hcs, _, hl, hm, hmm, _, hi⟩
  · injection hcs with hcs _
    exact ⟨none, 0, [], hcs, Rd.nil _ _ _, fun x hx => by simp at hx, Nat.zero_le _, Nat.zero_le _⟩
  · injection hcs with hcs _
    have hlen : len ≤ m := by rw [hmm]; split <;> omega
    have key : ∀ i, i < len → ∃ x : ByteArray, x.size ≤ 9223372036854775807 ∧ w.cell? ⟨a.block, a.off + i, none⟩ = some (.string x) ∧ a.add i = ⟨a.block, a.off + i, none⟩ := by
      intro i hi'
      obtain ⟨cs', hc, ht'⟩ := hi i (by omega)
      rw [hC] at hc
      obtain ⟨_, hcl, hat⟩ := World.cells?_some hc
      obtain ⟨s, hs, _, hsz⟩ := DataW.trod_string hE ht'
      have h0 := hat 0 (by omega)
      rw [hs, Nat.mul_one] at h0
      have h1 : w.cell? (a.add i) = some (.string s) := by
        have e : (a.add i).add 0 = a.add i := by simp [Addr.add]
        rw [e] at h0; simpa using h0
      have h2 := addr_flat h1
      refine ⟨s, by unfold maxLen at hsz; omega, by rw [← h2]; exact h1, h2⟩
    obtain ⟨l, hll, hlq⟩ := list_of len key
    refine ⟨some a, cap, l, by rw [hll]; exact hcs, ⟨by simp [strCells], fun hn => ?_⟩, fun x hx => ?_, by rw [hll]; unfold maxLen at hm; omega, by rw [hll]; exact hl⟩
    · refine ⟨a.block, a.off, ?_, fun j u hu => ?_⟩
      · have h2 := (hlq 0 _ (List.getElem?_eq_getElem hn)).2.2
        simp only [Addr.add, if_pos, Nat.add_zero] at h2
        rw [← h2]
      · simp only [strCells, List.getElem?_map, Option.map_eq_some_iff] at hu
        obtain ⟨x, hx, rfl⟩ := hu
        exact (hlq j x hx).2.1
    · obtain ⟨i, hi', rfl⟩ := List.getElem_of_mem hx
      exact (hlq i _ (List.getElem?_eq_getElem hi')).1
end
end
section
open Go.ChangeShapes Go.WideShapes Go.Deep Go.RowKit
section
variable {H : Type} {enc : TypeId × Value → H} {w : World} {spare : Nat → Bool}
def AtomOk (x : AtomM) : Prop := x.nm.size ≤ 9223372036854775807 ∧ x.ver.size ≤ 9223372036854775807 ∧ (Lit.int .i64 x.op).wf = true
def FileOk (x : FileM) : Prop := x.path.size ≤ 9223372036854775807 ∧ x.owner.size ≤ 9223372036854775807 ∧ x.group.size ≤ 9223372036854775807 ∧ x.link.size ≤ 9223372036854775807 ∧ x.sum.size ≤ 9223372036854775807 ∧ (Lit.int .i64 x.kind).wf = true ∧ (Lit.int .i64 x.mode).wf = true
def ScriptOk (x : ScriptM) : Prop := x.body.size ≤ 9223372036854775807 ∧ (Lit.int .i64 x.phase).wf = true
theorem read_str {n : Nat} {v : Value} {y : DataW H × List MemPlace} (h : DataW.trod enc Tryz.prog w 0 spare true n 9 [v] = some y) : ∃ s : ByteArray, v = .string s ∧ s.size ≤ 9223372036854775807 := by
  obtain ⟨s, hs, _, hz⟩ := DataW.trod_string Tryz.underlying9 h
  injection hs with hs _
  exact ⟨s, hs, by unfold maxLen at hz; omega⟩
theorem read_int {n : Nat} {v : Value} {y : DataW H × List MemPlace} (h : DataW.trod enc Tryz.prog w 0 spare true n 3 [v] = some y) : ∃ z : Int, v = .int .i64 z ∧ (Lit.int .i64 z).wf = true := by
  obtain ⟨z, hz, _, hw⟩ := DataW.trod_int Tryz.underlying3 h
  injection hz with hz _
  exact ⟨z, hz, hw⟩
theorem read_bool {n : Nat} {v : Value} {y : DataW H × List MemPlace} (h : DataW.trod enc Tryz.prog w 0 spare true n 4 [v] = some y) : ∃ z : Bool, v = .bool z := by
  obtain ⟨z, hz, _⟩ := DataW.trod_bool Tryz.underlying4 h
  injection hz with hz _
  exact ⟨z, hz⟩
theorem open_atoms {fuel : Nat} {v : Value} {d : DataW H × List MemPlace} (h : DataW.trod enc Tryz.prog w 0 spare true fuel 28 [v] = some d) :
    ∃ (A : Option Addr) (c : Nat) (l : List AtomM), v = .slice A l.length c ∧ Rd w 3 A l.length (l.flatMap AtomM.cells) ∧ (∀ x ∈ l, AtomOk x) ∧ l.length ≤ 9223372036854775807 ∧ l.length ≤ c := by
  refine open_list Tryz.underlying28 Tryz.underlying32 (by kernel_rfl) (by kernel_rfl) (by decide) AtomM.cells AtomOk (fun _ => rfl) (fun n vs hv => ?_) h
  obtain ⟨y0, h0⟩ := hv 0 _ rfl
  obtain ⟨y1, h1⟩ := hv 1 _ rfl
  obtain ⟨y2, h2⟩ := hv 2 _ rfl
  obtain ⟨s0, e0, z0⟩ := read_str h0
  obtain ⟨s1, e1, z1⟩ := read_int h1
  obtain ⟨s2, e2, z2⟩ := read_str h2
  refine ⟨⟨s0, s1, s2⟩, ⟨z0, z2, z1⟩, fun j hj => ?_⟩
  have hj' : j < 3 := hj
  rcases (by omega : j = 0 ∨ j = 1 ∨ j = 2) with rfl | rfl | rfl
  · rw [e0]; rfl
  · rw [e1]; rfl
  · rw [e2]; rfl
theorem open_files {fuel : Nat} {v : Value} {d : DataW H × List MemPlace} (h : DataW.trod enc Tryz.prog w 0 spare true fuel 40 [v] = some d) :
    ∃ (A : Option Addr) (c : Nat) (l : List FileM), v = .slice A l.length c ∧ Rd w 8 A l.length (l.flatMap FileM.cells) ∧ (∀ x ∈ l, FileOk x) ∧ l.length ≤ 9223372036854775807 ∧ l.length ≤ c := by
  refine open_list Tryz.underlying40 Tryz.underlying67 (by kernel_rfl) (by kernel_rfl) (by decide) FileM.cells FileOk (fun _ => rfl) (fun n vs hv => ?_) h
  obtain ⟨y0, h0⟩ := hv 0 _ rfl
  obtain ⟨y1, h1⟩ := hv 1 _ rfl
  obtain ⟨y2, h2⟩ := hv 2 _ rfl
  obtain ⟨y3, h3⟩ := hv 3 _ rfl
  obtain ⟨y4, h4⟩ := hv 4 _ rfl
  obtain ⟨y5, h5⟩ := hv 5 _ rfl
  obtain ⟨y6, h6⟩ := hv 6 _ rfl
  obtain ⟨y7, h7⟩ := hv 7 _ rfl
  obtain ⟨s0, e0, z0⟩ := read_str h0
  obtain ⟨s1, e1, z1⟩ := read_int h1
  obtain ⟨s2, e2, z2⟩ := read_int h2
  obtain ⟨s3, e3, z3⟩ := read_str h3
  obtain ⟨s4, e4, z4⟩ := read_str h4
  obtain ⟨s5, e5, z5⟩ := read_str h5
  obtain ⟨s6, e6, z6⟩ := read_str h6
  obtain ⟨s7, e7⟩ := read_bool h7
  refine ⟨⟨s0, s1, s2, s3, s4, s5, s6, s7⟩, ⟨z0, z3, z4, z5, z6, z1, z2⟩, fun j hj => ?_⟩
  have hj' : j < 8 := hj
  rcases (by omega : j = 0 ∨ j = 1 ∨ j = 2 ∨ j = 3 ∨ j = 4 ∨ j = 5 ∨ j = 6 ∨ j = 7) with rfl | rfl | rfl | rfl | rfl | rfl | rfl | rfl
  · rw [e0]; rfl
  · rw [e1]; rfl
  · rw [e2]; rfl
  · rw [e3]; rfl
  · rw [e4]; rfl
  · rw [e5]; rfl
  · rw [e6]; rfl
  · rw [e7]; rfl
theorem open_scripts {fuel : Nat} {v : Value} {d : DataW H × List MemPlace} (h : DataW.trod enc Tryz.prog w 0 spare true fuel 41 [v] = some d) :
    ∃ (A : Option Addr) (c : Nat) (l : List ScriptM), v = .slice A l.length c ∧ Rd w 2 A l.length (l.flatMap ScriptM.cells) ∧ (∀ x ∈ l, ScriptOk x) ∧ l.length ≤ 9223372036854775807 ∧ l.length ≤ c := by
  refine open_list Tryz.underlying41 Tryz.underlying69 (by kernel_rfl) (by kernel_rfl) (by decide) ScriptM.cells ScriptOk (fun _ => rfl) (fun n vs hv => ?_) h
  obtain ⟨y0, h0⟩ := hv 0 _ rfl
  obtain ⟨y1, h1⟩ := hv 1 _ rfl
  obtain ⟨s0, e0, z0⟩ := read_int h0
  obtain ⟨s1, e1, z1⟩ := read_str h1
  refine ⟨⟨s0, s1⟩, ⟨z1, z0⟩, fun j hj => ?_⟩
  have hj' : j < 2 := hj
  rcases (by omega : j = 0 ∨ j = 1) with rfl | rfl
  · rw [e0]; rfl
  · rw [e1]; rfl
theorem open_pk (n : Nat) (vs : Nat → Value)
    (hv : ∀ (j : Nat) (t : TypeId), [(9 : TypeId), 9, 9, 9, 39, 39, 28, 40, 41][j]? = some t → ∃ y, DataW.trod enc Tryz.prog w 0 spare true n t [vs j] = some y) :
    ∃ p : PkL, (p.ok w ∧ p.fits ∧ p.files.length ≤ p.fc ∧ p.needs.length ≤ p.nc ∧ p.bars.length ≤ p.bc ∧ p.gives.length ≤ p.gc ∧ p.scripts.length ≤ p.sc) ∧ ∀ j, j < 9 → p.cells[j]? = some (vs j) := by
  obtain ⟨y0, h0⟩ := hv 0 _ rfl
  obtain ⟨y1, h1⟩ := hv 1 _ rfl
  obtain ⟨y2, h2⟩ := hv 2 _ rfl
  obtain ⟨y3, h3⟩ := hv 3 _ rfl
  obtain ⟨y4, h4⟩ := hv 4 _ rfl
  obtain ⟨y5, h5⟩ := hv 5 _ rfl
  obtain ⟨y6, h6⟩ := hv 6 _ rfl
  obtain ⟨y7, h7⟩ := hv 7 _ rfl
  obtain ⟨y8, h8⟩ := hv 8 _ rfl
  obtain ⟨s0, e0, z0⟩ := read_str h0
  obtain ⟨s1, e1, z1⟩ := read_str h1
  obtain ⟨s2, e2, z2⟩ := read_str h2
  obtain ⟨s3, e3, z3⟩ := read_str h3
  obtain ⟨a4, c4, l4, e4, r4, x4, n4, k4⟩ := open_strs Tryz.underlying39 Tryz.underlying9 (by kernel_rfl) h4
  obtain ⟨a5, c5, l5, e5, r5, x5, n5, k5⟩ := open_strs Tryz.underlying39 Tryz.underlying9 (by kernel_rfl) h5
  obtain ⟨a6, c6, l6, e6, r6, x6, n6, k6⟩ := open_atoms h6
  obtain ⟨a7, c7, l7, e7, r7, x7, n7, k7⟩ := open_files h7
  obtain ⟨a8, c8, l8, e8, r8, x8, n8, k8⟩ := open_scripts h8
  refine ⟨⟨s0, s1, s2, s3, a4, c4, l4, a5, c5, l5, a6, c6, l6, a7, c7, l7, a8, c8, l8⟩, ⟨⟨r4, r5, r6, r7, r8⟩, ⟨z0, z1, z2, z3, n4, n5, n6, n7, n8, x4, x5, x6, x7, x8⟩, k7, k4, k5, k6, k8⟩, fun j hj => ?_⟩
  rcases (by omega : j = 0 ∨ j = 1 ∨ j = 2 ∨ j = 3 ∨ j = 4 ∨ j = 5 ∨ j = 6 ∨ j = 7 ∨ j = 8) with rfl | rfl | rfl | rfl | rfl | rfl | rfl | rfl | rfl
  · rw [e0]; rfl
  · rw [e1]; rfl
  · rw [e2]; rfl
  · rw [e3]; rfl
  · rw [e4]; rfl
  · rw [e5]; rfl
  · rw [e6]; rfl
  · rw [e7]; rfl
  · rw [e8]; rfl
theorem open_db {fuel : Nat} {v : Value} {d : DataW H × List MemPlace} (h : DataW.trod enc Tryz.prog w 0 spare true fuel 23 [v] = some d) :
    ∃ (A : Option Addr) (c : Nat) (l : List PkL), v = .slice A l.length c ∧ DbOk w A l ∧ (∀ p ∈ l, p.fits) ∧ l.length ≤ 9223372036854775807 ∧ (∀ p ∈ l, p.files.length ≤ p.fc ∧ p.needs.length ≤ p.nc ∧ p.bars.length ≤ p.bc ∧ p.gives.length ≤ p.gc ∧ p.scripts.length ≤ p.sc) ∧ l.length ≤ c := by
  obtain ⟨A, c, l, h1, h2, h3, h4, h5⟩ := open_list Tryz.underlying23 Tryz.underlying43 (by kernel_rfl) (by kernel_rfl) (by decide) PkL.cells (fun p => p.ok w ∧ p.fits ∧ p.files.length ≤ p.fc ∧ p.needs.length ≤ p.nc ∧ p.bars.length ≤ p.bc ∧ p.gives.length ≤ p.gc ∧ p.scripts.length ≤ p.sc) (fun _ => rfl) (fun n vs hv => by
    refine open_pk (enc := enc) (spare := spare) n vs (fun j t ht => ?_)
    have hj : j < 9 := by simpa using (List.getElem?_eq_some_iff.1 ht).1
    rcases (by omega : j = 0 ∨ j = 1 ∨ j = 2 ∨ j = 3 ∨ j = 4 ∨ j = 5 ∨ j = 6 ∨ j = 7 ∨ j = 8) with rfl | rfl | rfl | rfl | rfl | rfl | rfl | rfl | rfl
    · have ht := Option.some.inj ht; subst ht; exact hv 0 _ rfl
    · have ht := Option.some.inj ht; subst ht; exact hv 1 _ rfl
    · have ht := Option.some.inj ht; subst ht; exact hv 2 _ rfl
    · have ht := Option.some.inj ht; subst ht; exact hv 3 _ rfl
    · have ht := Option.some.inj ht; subst ht; exact hv 4 _ rfl
    · have ht := Option.some.inj ht; subst ht; exact hv 5 _ rfl
    · have ht := Option.some.inj ht; subst ht; exact hv 6 _ rfl
    · have ht := Option.some.inj ht; subst ht; exact hv 7 _ rfl
    · have ht := Option.some.inj ht; subst ht; exact hv 8 _ rfl) h
  exact ⟨A, c, l, h1, ⟨h2, fun p hp => (h3 p hp).1⟩, fun p hp => (h3 p hp).2.1, h4, fun p hp => (h3 p hp).2.2, h5⟩
end
end
end Go.Proofs.YtlhchpeecfbgnaaGreatDoor
