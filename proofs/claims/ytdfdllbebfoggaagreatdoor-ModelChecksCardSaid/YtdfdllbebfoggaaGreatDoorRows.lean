/-
  NARROWER THAN 'FOR EVERY INPUT', by the rows' own cells (each row's printed sentence says how): ModelPackages: laid · ModelWords: laid · ModelChecks: laid · ModelKeeps: laid · ModelOwners: laid.
  DERIVED. THE GIVEN ROWS OF THIS SEAT. 5 by the template 'for every input the law returns true; each argument reads behind the call as it read before'; 0 by the template 'total and deterministic' (their statements: YtdfdllbebfoggaaGreatDoorTotals.lean).
  GIVEN WITH THE SEED: the statements are not yours to turn. If you find one false, say at which input.
  Laid BY PROGRAM, IN A SANDBOX (cutbox-rows.mjs): the forced cells as the released guide's own fill.sh prints them over the translation ccc8c8fd9067df47… (all of the seat's roots in one cut). By AI agents, Wed Nov 11 2026. No macro, syntax, notation, axiom, sorry.
-/
import Derived.Test.YtdfdllbebfoggaaGreatDoorChecked
import GoSem.PinnedTables
import GoSem.Claim
import GoSem.ClaimJoined
import GoSem.ClaimMapViews
import Derived.JoinedTies
import Derived.KernelRfl
namespace Go.Proofs.YtdfdllbebfoggaaGreatDoor
/- THE CELL 'sum', in the pinned program and in every row, IS THE sha256 OF THE DUMP (.gsa) THAT YtdfdllbebfoggaaGreatDoorProg.lean LOADS. Nothing in Lean hashes anything: it is a label: what it is worth is what the hold of that sum in a sandbox is worth. -/
noncomputable def Tryz.pinned : Pinned := { name := "ytdfdllbebfoggaagreatdoor", sum := "ccc8c8fd9067df473b7bb157c0f257b20ee343f84222de8576c25ad329c921e1", checked := Tryz.checked }
namespace Rows
def none {H : Type} : Left H := { results := [], args := [] }

/- WHAT THE LISTED PACKAGE-LEVEL VARIABLES READ AS WHEN THE CALL BEGINS. Each datum BY PROGRAM (the guide's laid-datum.mjs) off the statement by which the dump's own 'gosem.cut.vars' lays the variable. In a bare row this is a premise. The card (YtdfdllbebfoggaaGreatDoorCards.lean) ties it to the program's text. -/
def laid_unicode_utf8_acceptRanges {H : Type} : DataW H := .agg [.agg [.lit (.int .u8 128), .lit (.int .u8 191)], .agg [.lit (.int .u8 160), .lit (.int .u8 191)], .agg [.lit (.int .u8 128), .lit (.int .u8 159)], .agg [.lit (.int .u8 144), .lit (.int .u8 191)], .agg [.lit (.int .u8 128), .lit (.int .u8 143)], .agg [.lit (.int .u8 0), .lit (.int .u8 0)], .agg [.lit (.int .u8 0), .lit (.int .u8 0)], .agg [.lit (.int .u8 0), .lit (.int .u8 0)], .agg [.lit (.int .u8 0), .lit (.int .u8 0)], .agg [.lit (.int .u8 0), .lit (.int .u8 0)], .agg [.lit (.int .u8 0), .lit (.int .u8 0)], .agg [.lit (.int .u8 0), .lit (.int .u8 0)], .agg [.lit (.int .u8 0), .lit (.int .u8 0)], .agg [.lit (.int .u8 0), .lit (.int .u8 0)], .agg [.lit (.int .u8 0), .lit (.int .u8 0)], .agg [.lit (.int .u8 0), .lit (.int .u8 0)]]
def laid_errors_errorType {H : Type} : DataW H := .iface "internal/reflectlite.rtype" (.agg [.ptr (.lit (.string [101, 114, 114, 111, 114]))])
def laid_drayage_version_words {H : Type} : DataW H := .agg [.lit (.string [97, 108, 112, 104, 97]), .lit (.string [98, 101, 116, 97]), .lit (.string [112, 114, 101]), .lit (.string [114, 99]), .lit (.string [99, 118, 115]), .lit (.string [115, 118, 110]), .lit (.string [103, 105, 116]), .lit (.string [104, 103]), .lit (.string [112])]
def laid_drayage_adep_signs {H : Type} : DataW H := .agg [.lit (.string []), .lit (.string [60]), .lit (.string [60, 61]), .lit (.string [61]), .lit (.string [62, 61]), .lit (.string [62]), .lit (.string [126])]
def laid_drayage_ddep_signs {H : Type} : DataW H := .agg [.lit (.string []), .lit (.string [60, 60]), .lit (.string [60, 61]), .lit (.string [61]), .lit (.string [62, 61]), .lit (.string [62, 62])]
def laid_drayage_rdep_signs {H : Type} : DataW H := .agg [.lit (.string []), .lit (.string [60]), .lit (.string [60, 61]), .lit (.string [61]), .lit (.string [62, 61]), .lit (.string [62])]
def laid_drayage_rdep_words {H : Type} : DataW H := .agg [.lit (.string [97, 110, 100]), .lit (.string [111, 114]), .lit (.string [105, 102]), .lit (.string [117, 110, 108, 101, 115, 115]), .lit (.string [119, 105, 116, 104]), .lit (.string [119, 105, 116, 104, 111, 117, 116])]
/-- One of Go's own tables, pinned by name: the form's constant. -/
def laid_unicode_utf8_first : DataW Unit := Go.Pinned.utf8First

/-- 'drayagelaw19.ModelPackages': WHATEVER THE INPUT: true; the input reads as it did. -/
def modelPackagesSpec : ChangeSpec := { name := "modelPackages", fn := fun _ => fun
  | [d1, d2] => { results := [.lit (.bool true)], args := [d1, d2] }
  | _ => none }
def modelPackagesRow : OpenClaim := { program := "ytdfdllbebfoggaagreatdoor", sum := "ccc8c8fd9067df473b7bb157c0f257b20ee343f84222de8576c25ad329c921e1", func := "drayage/drayagelaw19.ModelPackages", spec := "modelPackages", inPlace := ["internal/bytealg.IndexByteString", "internal/bytealg.IndexString", "internal/abi.NoEscape", "internal/bytealg.MakeNoZero", "internal/reflectlite.ValueOf", "(internal/reflectlite.Value).Type", "(internal/reflectlite.Value).IsNil", "internal/reflectlite.TypeOf", "(internal/reflectlite.Value).Elem", "(internal/reflectlite.Value).Set", "internal/bytealg.CountString"], unfollowed := true, recurses := true, named := ["internal/bytealg.MaxLen", "drayage/version.words", "drayage/ddep.signs", "drayage/rdep.words", "drayage/rdep.signs", "drayage/adep.signs", "errors.errorType", "unicode/utf8.first", "unicode/utf8.acceptRanges"], plainKeys := false, apart := false, laid := [("unicode/utf8.acceptRanges", laid_unicode_utf8_acceptRanges), ("errors.errorType", laid_errors_errorType), ("drayage/version.words", laid_drayage_version_words), ("drayage/adep.signs", laid_drayage_adep_signs), ("drayage/ddep.signs", laid_drayage_ddep_signs), ("drayage/rdep.signs", laid_drayage_rdep_signs), ("drayage/rdep.words", laid_drayage_rdep_words), ("unicode/utf8.first", laid_unicode_utf8_first)] }
def ModelPackagesSaid : Prop := modelPackagesRow.holds Tryz.pinned (OpenSpec.ofChange modelPackagesSpec)

/-- ITS FALSE NEIGHBOUR: 'it returns false'. Refute it at one input. -/
def modelPackagesWrong : ChangeSpec := { name := "modelPackages", fn := fun _ => fun
  | [d1, d2] => { results := [.lit (.bool false)], args := [d1, d2] }
  | _ => none }
def ModelPackagesWrongFalsely : Prop := modelPackagesRow.holds Tryz.pinned (OpenSpec.ofChange modelPackagesWrong)

/-- 'drayagelaw19.ModelWords': WHATEVER THE INPUT: true; the input reads as it did. -/
def modelWordsSpec : ChangeSpec := { name := "modelWords", fn := fun _ => fun
  | [d1, d2, d3] => { results := [.lit (.bool true)], args := [d1, d2, d3] }
  | _ => none }
def modelWordsRow : OpenClaim := { program := "ytdfdllbebfoggaagreatdoor", sum := "ccc8c8fd9067df473b7bb157c0f257b20ee343f84222de8576c25ad329c921e1", func := "drayage/drayagelaw19.ModelWords", spec := "modelWords", inPlace := ["internal/bytealg.IndexByteString", "internal/bytealg.IndexString", "internal/abi.NoEscape", "internal/bytealg.MakeNoZero", "internal/reflectlite.ValueOf", "(internal/reflectlite.Value).Type", "(internal/reflectlite.Value).IsNil", "internal/reflectlite.TypeOf", "(internal/reflectlite.Value).Elem", "(internal/reflectlite.Value).Set", "internal/bytealg.CountString"], unfollowed := true, recurses := true, named := ["internal/bytealg.MaxLen", "drayage/version.words", "drayage/ddep.signs", "drayage/rdep.words", "drayage/rdep.signs", "drayage/adep.signs", "errors.errorType", "unicode/utf8.first", "unicode/utf8.acceptRanges"], plainKeys := false, apart := false, laid := [("unicode/utf8.acceptRanges", laid_unicode_utf8_acceptRanges), ("errors.errorType", laid_errors_errorType), ("drayage/version.words", laid_drayage_version_words), ("drayage/adep.signs", laid_drayage_adep_signs), ("drayage/ddep.signs", laid_drayage_ddep_signs), ("drayage/rdep.signs", laid_drayage_rdep_signs), ("drayage/rdep.words", laid_drayage_rdep_words), ("unicode/utf8.first", laid_unicode_utf8_first)] }
def ModelWordsSaid : Prop := modelWordsRow.holds Tryz.pinned (OpenSpec.ofChange modelWordsSpec)

/-- ITS FALSE NEIGHBOUR: 'it returns false'. Refute it at one input. -/
def modelWordsWrong : ChangeSpec := { name := "modelWords", fn := fun _ => fun
  | [d1, d2, d3] => { results := [.lit (.bool false)], args := [d1, d2, d3] }
  | _ => none }
def ModelWordsWrongFalsely : Prop := modelWordsRow.holds Tryz.pinned (OpenSpec.ofChange modelWordsWrong)

/-- 'drayagelaw19.ModelChecks': WHATEVER THE INPUT: true; the input reads as it did. -/
def modelChecksSpec : ChangeSpec := { name := "modelChecks", fn := fun _ => fun
  | [d1, d2] => { results := [.lit (.bool true)], args := [d1, d2] }
  | _ => none }
def modelChecksRow : OpenClaim := { program := "ytdfdllbebfoggaagreatdoor", sum := "ccc8c8fd9067df473b7bb157c0f257b20ee343f84222de8576c25ad329c921e1", func := "drayage/drayagelaw19.ModelChecks", spec := "modelChecks", inPlace := ["internal/bytealg.IndexByteString", "internal/bytealg.IndexString", "internal/abi.NoEscape", "internal/bytealg.MakeNoZero", "internal/reflectlite.ValueOf", "(internal/reflectlite.Value).Type", "(internal/reflectlite.Value).IsNil", "internal/reflectlite.TypeOf", "(internal/reflectlite.Value).Elem", "(internal/reflectlite.Value).Set", "internal/bytealg.CountString"], unfollowed := true, recurses := true, named := ["internal/bytealg.MaxLen", "drayage/version.words", "drayage/ddep.signs", "drayage/rdep.words", "drayage/rdep.signs", "drayage/adep.signs", "errors.errorType", "unicode/utf8.first", "unicode/utf8.acceptRanges"], plainKeys := false, apart := false, laid := [("unicode/utf8.acceptRanges", laid_unicode_utf8_acceptRanges), ("errors.errorType", laid_errors_errorType), ("drayage/version.words", laid_drayage_version_words), ("drayage/adep.signs", laid_drayage_adep_signs), ("drayage/ddep.signs", laid_drayage_ddep_signs), ("drayage/rdep.signs", laid_drayage_rdep_signs), ("drayage/rdep.words", laid_drayage_rdep_words), ("unicode/utf8.first", laid_unicode_utf8_first)] }
def ModelChecksSaid : Prop := modelChecksRow.holds Tryz.pinned (OpenSpec.ofChange modelChecksSpec)

/-- ITS FALSE NEIGHBOUR: 'it returns false'. Refute it at one input. -/
def modelChecksWrong : ChangeSpec := { name := "modelChecks", fn := fun _ => fun
  | [d1, d2] => { results := [.lit (.bool false)], args := [d1, d2] }
  | _ => none }
def ModelChecksWrongFalsely : Prop := modelChecksRow.holds Tryz.pinned (OpenSpec.ofChange modelChecksWrong)

/-- 'drayagelaw19.ModelKeeps': WHATEVER THE INPUT: true; the input reads as it did. -/
def modelKeepsSpec : ChangeSpec := { name := "modelKeeps", fn := fun _ => fun
  | [d1, d2] => { results := [.lit (.bool true)], args := [d1, d2] }
  | _ => none }
def modelKeepsRow : OpenClaim := { program := "ytdfdllbebfoggaagreatdoor", sum := "ccc8c8fd9067df473b7bb157c0f257b20ee343f84222de8576c25ad329c921e1", func := "drayage/drayagelaw19.ModelKeeps", spec := "modelKeeps", inPlace := ["internal/bytealg.IndexByteString", "internal/bytealg.IndexString", "internal/abi.NoEscape", "internal/bytealg.MakeNoZero", "internal/reflectlite.ValueOf", "(internal/reflectlite.Value).Type", "(internal/reflectlite.Value).IsNil", "internal/reflectlite.TypeOf", "(internal/reflectlite.Value).Elem", "(internal/reflectlite.Value).Set", "internal/bytealg.CountString"], unfollowed := true, recurses := true, named := ["internal/bytealg.MaxLen", "drayage/version.words", "drayage/ddep.signs", "drayage/rdep.words", "drayage/rdep.signs", "drayage/adep.signs", "errors.errorType", "unicode/utf8.first", "unicode/utf8.acceptRanges"], plainKeys := false, apart := false, laid := [("unicode/utf8.acceptRanges", laid_unicode_utf8_acceptRanges), ("errors.errorType", laid_errors_errorType), ("drayage/version.words", laid_drayage_version_words), ("drayage/adep.signs", laid_drayage_adep_signs), ("drayage/ddep.signs", laid_drayage_ddep_signs), ("drayage/rdep.signs", laid_drayage_rdep_signs), ("drayage/rdep.words", laid_drayage_rdep_words), ("unicode/utf8.first", laid_unicode_utf8_first)] }
def ModelKeepsSaid : Prop := modelKeepsRow.holds Tryz.pinned (OpenSpec.ofChange modelKeepsSpec)

/-- ITS FALSE NEIGHBOUR: 'it returns false'. Refute it at one input. -/
def modelKeepsWrong : ChangeSpec := { name := "modelKeeps", fn := fun _ => fun
  | [d1, d2] => { results := [.lit (.bool false)], args := [d1, d2] }
  | _ => none }
def ModelKeepsWrongFalsely : Prop := modelKeepsRow.holds Tryz.pinned (OpenSpec.ofChange modelKeepsWrong)

/-- 'drayagelaw19.ModelOwners': WHATEVER THE INPUT: true; the input reads as it did. -/
def modelOwnersSpec : ChangeSpec := { name := "modelOwners", fn := fun _ => fun
  | [d] => { results := [.lit (.bool true)], args := [d] }
  | _ => none }
def modelOwnersRow : OpenClaim := { program := "ytdfdllbebfoggaagreatdoor", sum := "ccc8c8fd9067df473b7bb157c0f257b20ee343f84222de8576c25ad329c921e1", func := "drayage/drayagelaw19.ModelOwners", spec := "modelOwners", inPlace := ["internal/bytealg.IndexByteString", "internal/bytealg.IndexString", "internal/abi.NoEscape", "internal/bytealg.MakeNoZero", "internal/reflectlite.ValueOf", "(internal/reflectlite.Value).Type", "(internal/reflectlite.Value).IsNil", "internal/reflectlite.TypeOf", "(internal/reflectlite.Value).Elem", "(internal/reflectlite.Value).Set", "internal/bytealg.CountString"], unfollowed := true, recurses := true, named := ["internal/bytealg.MaxLen", "drayage/version.words", "drayage/ddep.signs", "drayage/rdep.words", "drayage/rdep.signs", "drayage/adep.signs", "errors.errorType", "unicode/utf8.first", "unicode/utf8.acceptRanges"], plainKeys := false, apart := false, laid := [("unicode/utf8.acceptRanges", laid_unicode_utf8_acceptRanges), ("errors.errorType", laid_errors_errorType), ("drayage/version.words", laid_drayage_version_words), ("drayage/adep.signs", laid_drayage_adep_signs), ("drayage/ddep.signs", laid_drayage_ddep_signs), ("drayage/rdep.signs", laid_drayage_rdep_signs), ("drayage/rdep.words", laid_drayage_rdep_words), ("unicode/utf8.first", laid_unicode_utf8_first)] }
def ModelOwnersSaid : Prop := modelOwnersRow.holds Tryz.pinned (OpenSpec.ofChange modelOwnersSpec)

/-- ITS FALSE NEIGHBOUR: 'it returns false'. Refute it at one input. -/
def modelOwnersWrong : ChangeSpec := { name := "modelOwners", fn := fun _ => fun
  | [d] => { results := [.lit (.bool false)], args := [d] }
  | _ => none }
def ModelOwnersWrongFalsely : Prop := modelOwnersRow.holds Tryz.pinned (OpenSpec.ofChange modelOwnersWrong)

/- THE SECOND FORM. 'bulk': how many values and letters a reading holds, each counted each time it is reached (what is shared counts as often as it is met; a slice's spare places count too). A statement '..UptoSaid' is the law's where the arguments, and the package variables that the reading takes, are together of bulk at most 1048576: NARROWER than '..Said'. Prove '..Said' where nothing that the law and all that it calls make is longer than what came in: it says more and counts as full. Else prove '..UptoSaid'. A law counts once. -/
mutual
def uptoBulk {H : Type} : DataW H → Nat
  | .lit (.string bytes) => bytes.length + 1
  | .lit _ => 1
  | .nil => 1
  | .ptr d => uptoBulk d + 1
  | .slice elems spare => uptoBulkAll elems + uptoBulkAll spare + 1
  | .agg parts => uptoBulkAll parts + 1
  | .iface _ d => uptoBulk d + 1
  | .map entries => uptoBulkEntries entries + 1
  | .held _ => 1
def uptoBulkAll {H : Type} : List (DataW H) → Nat
  | [] => 0
  | d :: r => uptoBulk d + uptoBulkAll r
def uptoBulkEntries {H : Type} : List (Lit × DataW H) → Nat
  | [] => 0
  | x :: r => uptoBulkEntry x + uptoBulkEntries r
def uptoBulkEntry {H : Type} : Lit × DataW H → Nat
  | (.string bytes, d) => bytes.length + uptoBulk d + 1
  | (_, d) => uptoBulk d + 1
 end
def uptoSmall : (H : Type) → List (DataW H) → Bool := fun _ ds => decide (uptoBulkAll ds ≤ 1048576)
def OpenSpec.upto (s : _root_.Go.ChangeSpec) : _root_.Go.OpenSpec := { _root_.Go.OpenSpec.ofChange s with cond := some uptoSmall }

/-- 'drayagelaw19.ModelPackages', WHERE WHAT IT READS IS OF BULK AT MOST 1048576: true; the input reads as it did. -/
def modelPackagesUptoRow : OpenClaim := { program := "ytdfdllbebfoggaagreatdoor", sum := "ccc8c8fd9067df473b7bb157c0f257b20ee343f84222de8576c25ad329c921e1", func := "drayage/drayagelaw19.ModelPackages", spec := "modelPackages", inPlace := ["internal/bytealg.IndexByteString", "internal/bytealg.IndexString", "internal/abi.NoEscape", "internal/bytealg.MakeNoZero", "internal/reflectlite.ValueOf", "(internal/reflectlite.Value).Type", "(internal/reflectlite.Value).IsNil", "internal/reflectlite.TypeOf", "(internal/reflectlite.Value).Elem", "(internal/reflectlite.Value).Set", "internal/bytealg.CountString"], unfollowed := true, recurses := true, named := ["internal/bytealg.MaxLen", "drayage/version.words", "drayage/ddep.signs", "drayage/rdep.words", "drayage/rdep.signs", "drayage/adep.signs", "errors.errorType", "unicode/utf8.first", "unicode/utf8.acceptRanges"], plainKeys := false, apart := false, laid := [("unicode/utf8.acceptRanges", laid_unicode_utf8_acceptRanges), ("errors.errorType", laid_errors_errorType), ("drayage/version.words", laid_drayage_version_words), ("drayage/adep.signs", laid_drayage_adep_signs), ("drayage/ddep.signs", laid_drayage_ddep_signs), ("drayage/rdep.signs", laid_drayage_rdep_signs), ("drayage/rdep.words", laid_drayage_rdep_words), ("unicode/utf8.first", laid_unicode_utf8_first)], narrowed := true }
def ModelPackagesUptoSaid : Prop := modelPackagesUptoRow.holds Tryz.pinned (OpenSpec.upto modelPackagesSpec)

/-- 'drayagelaw19.ModelWords', WHERE WHAT IT READS IS OF BULK AT MOST 1048576: true; the input reads as it did. -/
def modelWordsUptoRow : OpenClaim := { program := "ytdfdllbebfoggaagreatdoor", sum := "ccc8c8fd9067df473b7bb157c0f257b20ee343f84222de8576c25ad329c921e1", func := "drayage/drayagelaw19.ModelWords", spec := "modelWords", inPlace := ["internal/bytealg.IndexByteString", "internal/bytealg.IndexString", "internal/abi.NoEscape", "internal/bytealg.MakeNoZero", "internal/reflectlite.ValueOf", "(internal/reflectlite.Value).Type", "(internal/reflectlite.Value).IsNil", "internal/reflectlite.TypeOf", "(internal/reflectlite.Value).Elem", "(internal/reflectlite.Value).Set", "internal/bytealg.CountString"], unfollowed := true, recurses := true, named := ["internal/bytealg.MaxLen", "drayage/version.words", "drayage/ddep.signs", "drayage/rdep.words", "drayage/rdep.signs", "drayage/adep.signs", "errors.errorType", "unicode/utf8.first", "unicode/utf8.acceptRanges"], plainKeys := false, apart := false, laid := [("unicode/utf8.acceptRanges", laid_unicode_utf8_acceptRanges), ("errors.errorType", laid_errors_errorType), ("drayage/version.words", laid_drayage_version_words), ("drayage/adep.signs", laid_drayage_adep_signs), ("drayage/ddep.signs", laid_drayage_ddep_signs), ("drayage/rdep.signs", laid_drayage_rdep_signs), ("drayage/rdep.words", laid_drayage_rdep_words), ("unicode/utf8.first", laid_unicode_utf8_first)], narrowed := true }
def ModelWordsUptoSaid : Prop := modelWordsUptoRow.holds Tryz.pinned (OpenSpec.upto modelWordsSpec)

/-- 'drayagelaw19.ModelChecks', WHERE WHAT IT READS IS OF BULK AT MOST 1048576: true; the input reads as it did. -/
def modelChecksUptoRow : OpenClaim := { program := "ytdfdllbebfoggaagreatdoor", sum := "ccc8c8fd9067df473b7bb157c0f257b20ee343f84222de8576c25ad329c921e1", func := "drayage/drayagelaw19.ModelChecks", spec := "modelChecks", inPlace := ["internal/bytealg.IndexByteString", "internal/bytealg.IndexString", "internal/abi.NoEscape", "internal/bytealg.MakeNoZero", "internal/reflectlite.ValueOf", "(internal/reflectlite.Value).Type", "(internal/reflectlite.Value).IsNil", "internal/reflectlite.TypeOf", "(internal/reflectlite.Value).Elem", "(internal/reflectlite.Value).Set", "internal/bytealg.CountString"], unfollowed := true, recurses := true, named := ["internal/bytealg.MaxLen", "drayage/version.words", "drayage/ddep.signs", "drayage/rdep.words", "drayage/rdep.signs", "drayage/adep.signs", "errors.errorType", "unicode/utf8.first", "unicode/utf8.acceptRanges"], plainKeys := false, apart := false, laid := [("unicode/utf8.acceptRanges", laid_unicode_utf8_acceptRanges), ("errors.errorType", laid_errors_errorType), ("drayage/version.words", laid_drayage_version_words), ("drayage/adep.signs", laid_drayage_adep_signs), ("drayage/ddep.signs", laid_drayage_ddep_signs), ("drayage/rdep.signs", laid_drayage_rdep_signs), ("drayage/rdep.words", laid_drayage_rdep_words), ("unicode/utf8.first", laid_unicode_utf8_first)], narrowed := true }
def ModelChecksUptoSaid : Prop := modelChecksUptoRow.holds Tryz.pinned (OpenSpec.upto modelChecksSpec)

/-- 'drayagelaw19.ModelKeeps', WHERE WHAT IT READS IS OF BULK AT MOST 1048576: true; the input reads as it did. -/
def modelKeepsUptoRow : OpenClaim := { program := "ytdfdllbebfoggaagreatdoor", sum := "ccc8c8fd9067df473b7bb157c0f257b20ee343f84222de8576c25ad329c921e1", func := "drayage/drayagelaw19.ModelKeeps", spec := "modelKeeps", inPlace := ["internal/bytealg.IndexByteString", "internal/bytealg.IndexString", "internal/abi.NoEscape", "internal/bytealg.MakeNoZero", "internal/reflectlite.ValueOf", "(internal/reflectlite.Value).Type", "(internal/reflectlite.Value).IsNil", "internal/reflectlite.TypeOf", "(internal/reflectlite.Value).Elem", "(internal/reflectlite.Value).Set", "internal/bytealg.CountString"], unfollowed := true, recurses := true, named := ["internal/bytealg.MaxLen", "drayage/version.words", "drayage/ddep.signs", "drayage/rdep.words", "drayage/rdep.signs", "drayage/adep.signs", "errors.errorType", "unicode/utf8.first", "unicode/utf8.acceptRanges"], plainKeys := false, apart := false, laid := [("unicode/utf8.acceptRanges", laid_unicode_utf8_acceptRanges), ("errors.errorType", laid_errors_errorType), ("drayage/version.words", laid_drayage_version_words), ("drayage/adep.signs", laid_drayage_adep_signs), ("drayage/ddep.signs", laid_drayage_ddep_signs), ("drayage/rdep.signs", laid_drayage_rdep_signs), ("drayage/rdep.words", laid_drayage_rdep_words), ("unicode/utf8.first", laid_unicode_utf8_first)], narrowed := true }
def ModelKeepsUptoSaid : Prop := modelKeepsUptoRow.holds Tryz.pinned (OpenSpec.upto modelKeepsSpec)

/-- 'drayagelaw19.ModelOwners', WHERE WHAT IT READS IS OF BULK AT MOST 1048576: true; the input reads as it did. -/
def modelOwnersUptoRow : OpenClaim := { program := "ytdfdllbebfoggaagreatdoor", sum := "ccc8c8fd9067df473b7bb157c0f257b20ee343f84222de8576c25ad329c921e1", func := "drayage/drayagelaw19.ModelOwners", spec := "modelOwners", inPlace := ["internal/bytealg.IndexByteString", "internal/bytealg.IndexString", "internal/abi.NoEscape", "internal/bytealg.MakeNoZero", "internal/reflectlite.ValueOf", "(internal/reflectlite.Value).Type", "(internal/reflectlite.Value).IsNil", "internal/reflectlite.TypeOf", "(internal/reflectlite.Value).Elem", "(internal/reflectlite.Value).Set", "internal/bytealg.CountString"], unfollowed := true, recurses := true, named := ["internal/bytealg.MaxLen", "drayage/version.words", "drayage/ddep.signs", "drayage/rdep.words", "drayage/rdep.signs", "drayage/adep.signs", "errors.errorType", "unicode/utf8.first", "unicode/utf8.acceptRanges"], plainKeys := false, apart := false, laid := [("unicode/utf8.acceptRanges", laid_unicode_utf8_acceptRanges), ("errors.errorType", laid_errors_errorType), ("drayage/version.words", laid_drayage_version_words), ("drayage/adep.signs", laid_drayage_adep_signs), ("drayage/ddep.signs", laid_drayage_ddep_signs), ("drayage/rdep.signs", laid_drayage_rdep_signs), ("drayage/rdep.words", laid_drayage_rdep_words), ("unicode/utf8.first", laid_unicode_utf8_first)], narrowed := true }
def ModelOwnersUptoSaid : Prop := modelOwnersUptoRow.holds Tryz.pinned (OpenSpec.upto modelOwnersSpec)

end Rows
end Go.Proofs.YtdfdllbebfoggaaGreatDoor
