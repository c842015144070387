/- A part of the proof that the digests of any content are the three of it, and that an installed set is new memory. No condition. -/
import Derived.ChangeAlike
import Derived.Deep.AppendLies
import Derived.Deep.RegionLaw
import Derived.Laws.OwnMore
import Derived.Lib.IndexMore
import Derived.Lib.LastIndexByte
import Derived.Lib.SplitLaws
import Derived.Maps.AppendAt
import Derived.OwnWalk
import Derived.RegionTactic
import Derived.Shelf.LaysM
import Derived.Shelf.Slices.Turned
import Derived.Shelf.Small.Strs
import Derived.Shelf.Small.Utf8
import Derived.Shelf.Small.Wraps
import Derived.Shelf.Strconv.Itoa0
import Derived.Shelf.Strconv.Itoa1
import Derived.Shelf.Strconv.Itoa2
import Derived.Shelf.Strconv.Itoa3
import Derived.Shelf.Strings.AsciiSet
import Derived.Shelf.Strings.Builder1
import Derived.Shelf.Strings.Builder2
import Derived.Shelf.Strings.BuilderF
import Derived.Shelf.Strings.Count
import Derived.Shelf.Strings.Cut
import Derived.Shelf.Strings.IndexAny
import Derived.Shelf.Strings.IndexAnyAll
import Derived.Shelf.Strings.LastIndex
import Derived.Shelf.Strings.OnBuilder
import Derived.Shelf.Strings.Prefix
import Derived.Shelf.Strings.Runes
import Derived.Shelf.Strings.Search1
import Derived.Shelf.Strings.Search2
import Derived.Shelf.Strings.Search3
import Derived.Shelf.Strings.Shaped
import Derived.Shelf.Strings.SlTrimAscii
import Derived.Shelf.Strings.Split
import Derived.Shelf.Strings.SplitShaped
import Derived.Shelf.Strings.Trim
import Derived.Shelf.Unicode.Decode
import Derived.Shelf.Unicode.DecodeAny
import Derived.Shelf.Unicode.DecodeSlow
import Derived.Test.YtlhchpeecfbgnaaGreatDoorG11
set_option maxRecDepth 100000
set_option maxHeartbeats 20000000
set_option linter.unusedVariables false
set_option linter.unusedSimpArgs false
namespace Go.Proofs.YtlhchpeecfbgnaaGreatDoor
section
open Go.RowKit
theorem idx_int {T E : TypeId} {sz : Nat} (hT : Tryz.prog.underlying T = some (.slice (Tryz.prog.elem T))) (hE : Tryz.prog.elem T = E) (hs : ∀ w, (sizeOf E).run Tryz.prog w = .ok sz w)
    {A : Option Addr} {n c k b off : Nat} {i : Int} (hi : i = k) (hA : A = some ⟨b, off, none⟩) (hk : k < n) (w : World) : (Instr.indexAt T (.slice A n c) (.int .i64 i)).run Tryz.prog w = .ok (.pointer (some ⟨b, off + k * sz, none⟩)) w := by
  subst hi; exact idx_of hT hE hs hA hk w
end
end Go.Proofs.YtlhchpeecfbgnaaGreatDoor
