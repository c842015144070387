/- Contracts: a list in new memory. -/
import Derived.Test.YtdfdllbebfoggaaGreatDoorMk2
import Derived.Test.YtdfdllbebfoggaaGreatDoorWords
namespace Go.Proofs.YtdfdllbebfoggaaGreatDoor
open Go.RowKit

theorem Rd.reads {w : World} {sz n : Nat} {A : Option Addr} {xs : List Value} (h : Rd w sz A n xs) (hsz : 0 < sz) : Reads w w.heap.size sz A n xs := by
  refine ⟨h.1, fun hn => ?_⟩
  obtain ⟨b, off, e, hc⟩ := h.2 hn
  have hl : 0 < xs.length := by rw [h.1]; exact Nat.mul_pos hn hsz
  have h0 := hc 0 _ (List.getElem?_eq_getElem hl)
  refine ⟨_, e, World.block_lt_of_cell? _ _ h0, fun j u hu => ?_⟩
  have := hc j u hu
  unfold Addr.add
  split
  · rename_i h; subst h; exact this
  · exact this

/-- append onto nil, from whatever list. -/
def AgainPost (w : World) (E : TypeId) (sz n : Nat) (xs : List Value) (e : Ending) (w' : World) : Prop := ∃ v, e = .returned v ∧ w'.ownsRow w.heap.size E sz v n xs ∧ Below w.heap.size w w'

theorem info_Package : (Tryz.prog.info? 27).map (fun i => (i.zero, i.size, i.bytes)) = some (some (.agg #[.string ⟨#[]⟩, .string ⟨#[]⟩, .string ⟨#[]⟩, .string ⟨#[]⟩, .slice none 0 0, .slice none 0 0, .slice none 0 0, .slice none 0 0, .slice none 0 0]), 9, 184) := by kernel_rfl
set_option maxHeartbeats 400000 in
theorem again_Package (A : Option Addr) (n c : Nat) (xs : List Value) (w : World) (hr : Rd w 9 A n xs) (h1 : ∀ u ∈ xs, u.oneCell' = true) (hn : n ≤ 100000) :
    Calls Tryz.prog 44 #[.slice A n c] w (AgainPost w 27 9 n xs) := by
  obtain ⟨i0, hi0, hz0, hz1, hz2⟩ := info_parts info_Package
  have HR := Lib.hid hr; clear hr
  have H1 := Lib.hid h1; clear h1
  go_enter Tryz.func44, Tryz.ntmps44
  go_wp2_with (at_builtin; refine wpList_append_any _ rfl (.const (.slice none 0 0)) (.tmp 3) _ rfl w.heap.size 27 i0 _ 9 184 Tryz.underlying40 hi0 hz0 hz1 hz2 rfl (by omega) (.slice none 0 0) 0 [] rfl ⟨by simp, .inl ⟨rfl, rfl⟩⟩ w.heap.size A n c xs rfl (HR.out.reads (by omega)) H1.out (by simp only [maxLen]; omega) (by omega) (Nat.le_refl _) ?_; intro v1 w1 hown1 hg1 hat1)
  go_ret
  exact ⟨v1, rfl, by simpa using hown1, (Below.refl _ _).grown hg1 (Nat.le_refl _) (by simp [Value.ownBlock])⟩

theorem info_str : (Tryz.prog.info? 9).map (fun i => (i.zero, i.size, i.bytes)) = some (some (.string ⟨#[]⟩), 1, 16) := by kernel_rfl
set_option maxHeartbeats 400000 in
theorem again_str (A : Option Addr) (n c : Nat) (xs : List Value) (w : World) (hr : Rd w 1 A n xs) (h1 : ∀ u ∈ xs, u.oneCell' = true) (hn : n ≤ 100000) :
    Calls Tryz.prog 45 #[.slice A n c] w (AgainPost w 9 1 n xs) := by
  obtain ⟨i0, hi0, hz0, hz1, hz2⟩ := info_parts info_str
  have HR := Lib.hid hr; clear hr
  have H1 := Lib.hid h1; clear h1
  go_enter Tryz.func45, Tryz.ntmps45
  go_wp2_with (at_builtin; refine wpList_append_any _ rfl (.const (.slice none 0 0)) (.tmp 3) _ rfl w.heap.size 9 i0 _ 1 16 Tryz.underlying22 hi0 hz0 hz1 hz2 rfl (by omega) (.slice none 0 0) 0 [] rfl ⟨by simp, .inl ⟨rfl, rfl⟩⟩ w.heap.size A n c xs rfl (HR.out.reads (by omega)) H1.out (by simp only [maxLen]; omega) (by omega) (Nat.le_refl _) ?_; intro v1 w1 hown1 hg1 hat1)
  go_ret
  exact ⟨v1, rfl, by simpa using hown1, (Below.refl _ _).grown hg1 (Nat.le_refl _) (by simp [Value.ownBlock])⟩

theorem info_Atom : (Tryz.prog.info? 48).map (fun i => (i.zero, i.size, i.bytes)) = some (some (.agg #[.string ⟨#[]⟩, .int .i64 0, .string ⟨#[]⟩]), 3, 40) := by kernel_rfl
set_option maxHeartbeats 400000 in
theorem again_Atom (A : Option Addr) (n c : Nat) (xs : List Value) (w : World) (hr : Rd w 3 A n xs) (h1 : ∀ u ∈ xs, u.oneCell' = true) (hn : n ≤ 100000) :
    Calls Tryz.prog 46 #[.slice A n c] w (AgainPost w 48 3 n xs) := by
  obtain ⟨i0, hi0, hz0, hz1, hz2⟩ := info_parts info_Atom
  have HR := Lib.hid hr; clear hr
  have H1 := Lib.hid h1; clear h1
  go_enter Tryz.func46, Tryz.ntmps46
  go_wp2_with (at_builtin; refine wpList_append_any _ rfl (.const (.slice none 0 0)) (.tmp 3) _ rfl w.heap.size 48 i0 _ 3 40 Tryz.underlying23 hi0 hz0 hz1 hz2 rfl (by omega) (.slice none 0 0) 0 [] rfl ⟨by simp, .inl ⟨rfl, rfl⟩⟩ w.heap.size A n c xs rfl (HR.out.reads (by omega)) H1.out (by simp only [maxLen]; omega) (by omega) (Nat.le_refl _) ?_; intro v1 w1 hown1 hg1 hat1)
  go_ret
  exact ⟨v1, rfl, by simpa using hown1, (Below.refl _ _).grown hg1 (Nat.le_refl _) (by simp [Value.ownBlock])⟩

theorem info_File : (Tryz.prog.info? 46).map (fun i => (i.zero, i.size, i.bytes)) = some (some (.agg #[.string ⟨#[]⟩, .int .i64 0, .int .i64 0, .string ⟨#[]⟩, .string ⟨#[]⟩, .string ⟨#[]⟩, .string ⟨#[]⟩, .bool false]), 8, 104) := by kernel_rfl
set_option maxHeartbeats 400000 in
theorem again_File (A : Option Addr) (n c : Nat) (xs : List Value) (w : World) (hr : Rd w 8 A n xs) (h1 : ∀ u ∈ xs, u.oneCell' = true) (hn : n ≤ 100000) :
    Calls Tryz.prog 47 #[.slice A n c] w (AgainPost w 46 8 n xs) := by
  obtain ⟨i0, hi0, hz0, hz1, hz2⟩ := info_parts info_File
  have HR := Lib.hid hr; clear hr
  have H1 := Lib.hid h1; clear h1
  go_enter Tryz.func47, Tryz.ntmps47
  go_wp2_with (at_builtin; refine wpList_append_any _ rfl (.const (.slice none 0 0)) (.tmp 3) _ rfl w.heap.size 46 i0 _ 8 104 Tryz.underlying24 hi0 hz0 hz1 hz2 rfl (by omega) (.slice none 0 0) 0 [] rfl ⟨by simp, .inl ⟨rfl, rfl⟩⟩ w.heap.size A n c xs rfl (HR.out.reads (by omega)) H1.out (by simp only [maxLen]; omega) (by omega) (Nat.le_refl _) ?_; intro v1 w1 hown1 hg1 hat1)
  go_ret
  exact ⟨v1, rfl, by simpa using hown1, (Below.refl _ _).grown hg1 (Nat.le_refl _) (by simp [Value.ownBlock])⟩

theorem info_Script : (Tryz.prog.info? 50).map (fun i => (i.zero, i.size, i.bytes)) = some (some (.agg #[.int .i64 0, .string ⟨#[]⟩]), 2, 24) := by kernel_rfl
set_option maxHeartbeats 400000 in
theorem again_Script (A : Option Addr) (n c : Nat) (xs : List Value) (w : World) (hr : Rd w 2 A n xs) (h1 : ∀ u ∈ xs, u.oneCell' = true) (hn : n ≤ 100000) :
    Calls Tryz.prog 48 #[.slice A n c] w (AgainPost w 50 2 n xs) := by
  obtain ⟨i0, hi0, hz0, hz1, hz2⟩ := info_parts info_Script
  have HR := Lib.hid hr; clear hr
  have H1 := Lib.hid h1; clear h1
  go_enter Tryz.func48, Tryz.ntmps48
  go_wp2_with (at_builtin; refine wpList_append_any _ rfl (.const (.slice none 0 0)) (.tmp 3) _ rfl w.heap.size 50 i0 _ 2 24 Tryz.underlying25 hi0 hz0 hz1 hz2 rfl (by omega) (.slice none 0 0) 0 [] rfl ⟨by simp, .inl ⟨rfl, rfl⟩⟩ w.heap.size A n c xs rfl (HR.out.reads (by omega)) H1.out (by simp only [maxLen]; omega) (by omega) (Nat.le_refl _) ?_; intro v1 w1 hown1 hg1 hat1)
  go_ret
  exact ⟨v1, rfl, by simpa using hown1, (Below.refl _ _).grown hg1 (Nat.le_refl _) (by simp [Value.ownBlock])⟩

end Go.Proofs.YtdfdllbebfoggaaGreatDoor
