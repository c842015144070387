/-
  NARROWER THAN 'FOR EVERY INPUT', by the rows' own cells (each row's printed sentence says how): AuditClean: laid.
  DERIVED. THE GIVEN ROWS OF THIS SEAT. 1 by the template 'for every input the law returns true; each argument reads behind the call as it read before'; 0 by the template 'total and deterministic' (their statements: YtaohgmcbpafdeaaGreatDoorTotals.lean).
  GIVEN WITH THE SEED: the statements are not yours to turn. If you find one false, say at which input.
  Laid BY PROGRAM, IN A SANDBOX (cutbox-rows.mjs): the forced cells as the released guide's own fill.sh prints them over the translation a5522514a01befa9… (all of the seat's roots in one cut). By AI agents, Wed Nov 11 2026. No macro, syntax, notation, axiom, sorry.
-/
import Derived.Test.YtaohgmcbpafdeaaGreatDoorChecked
import GoSem.PinnedTables
import GoSem.Claim
import GoSem.ClaimJoined
import GoSem.ClaimMapViews
import Derived.JoinedTies
import Derived.KernelRfl
namespace Go.Proofs.YtaohgmcbpafdeaaGreatDoor
/- THE CELL 'sum', in the pinned program and in every row, IS THE sha256 OF THE DUMP (.gsa) THAT YtaohgmcbpafdeaaGreatDoorProg.lean LOADS. Nothing in Lean hashes anything: it is a label: what it is worth is what the hold of that sum in a sandbox is worth. -/
noncomputable def Tryz.pinned : Pinned := { name := "ytaohgmcbpafdeaagreatdoor", sum := "a5522514a01befa901600c1182e4baef45f0b6ae50b6c065ee90690291ca7c9c", checked := Tryz.checked }
namespace Rows
def none {H : Type} : Left H := { results := [], args := [] }

/- WHAT THE LISTED PACKAGE-LEVEL VARIABLES READ AS WHEN THE CALL BEGINS. Each datum BY PROGRAM (the guide's laid-datum.mjs) off the statement by which the dump's own 'gosem.cut.vars' lays the variable. In a bare row this is a premise. The card (YtaohgmcbpafdeaaGreatDoorCards.lean) ties it to the program's text. -/
def laid_drayage_api_Md5Table {H : Type} : DataW H := .agg [.lit (.int .u32 3614090360), .lit (.int .u32 3905402710), .lit (.int .u32 606105819), .lit (.int .u32 3250441966), .lit (.int .u32 4118548399), .lit (.int .u32 1200080426), .lit (.int .u32 2821735955), .lit (.int .u32 4249261313), .lit (.int .u32 1770035416), .lit (.int .u32 2336552879), .lit (.int .u32 4294925233), .lit (.int .u32 2304563134), .lit (.int .u32 1804603682), .lit (.int .u32 4254626195), .lit (.int .u32 2792965006), .lit (.int .u32 1236535329), .lit (.int .u32 4129170786), .lit (.int .u32 3225465664), .lit (.int .u32 643717713), .lit (.int .u32 3921069994), .lit (.int .u32 3593408605), .lit (.int .u32 38016083), .lit (.int .u32 3634488961), .lit (.int .u32 3889429448), .lit (.int .u32 568446438), .lit (.int .u32 3275163606), .lit (.int .u32 4107603335), .lit (.int .u32 1163531501), .lit (.int .u32 2850285829), .lit (.int .u32 4243563512), .lit (.int .u32 1735328473), .lit (.int .u32 2368359562), .lit (.int .u32 4294588738), .lit (.int .u32 2272392833), .lit (.int .u32 1839030562), .lit (.int .u32 4259657740), .lit (.int .u32 2763975236), .lit (.int .u32 1272893353), .lit (.int .u32 4139469664), .lit (.int .u32 3200236656), .lit (.int .u32 681279174), .lit (.int .u32 3936430074), .lit (.int .u32 3572445317), .lit (.int .u32 76029189), .lit (.int .u32 3654602809), .lit (.int .u32 3873151461), .lit (.int .u32 530742520), .lit (.int .u32 3299628645), .lit (.int .u32 4096336452), .lit (.int .u32 1126891415), .lit (.int .u32 2878612391), .lit (.int .u32 4237533241), .lit (.int .u32 1700485571), .lit (.int .u32 2399980690), .lit (.int .u32 4293915773), .lit (.int .u32 2240044497), .lit (.int .u32 1873313359), .lit (.int .u32 4264355552), .lit (.int .u32 2734768916), .lit (.int .u32 1309151649), .lit (.int .u32 4149444226), .lit (.int .u32 3174756917), .lit (.int .u32 718787259), .lit (.int .u32 3951481745)]
def laid_drayage_api_ShaTable {H : Type} : DataW H := .agg [.lit (.int .u32 1116352408), .lit (.int .u32 1899447441), .lit (.int .u32 3049323471), .lit (.int .u32 3921009573), .lit (.int .u32 961987163), .lit (.int .u32 1508970993), .lit (.int .u32 2453635748), .lit (.int .u32 2870763221), .lit (.int .u32 3624381080), .lit (.int .u32 310598401), .lit (.int .u32 607225278), .lit (.int .u32 1426881987), .lit (.int .u32 1925078388), .lit (.int .u32 2162078206), .lit (.int .u32 2614888103), .lit (.int .u32 3248222580), .lit (.int .u32 3835390401), .lit (.int .u32 4022224774), .lit (.int .u32 264347078), .lit (.int .u32 604807628), .lit (.int .u32 770255983), .lit (.int .u32 1249150122), .lit (.int .u32 1555081692), .lit (.int .u32 1996064986), .lit (.int .u32 2554220882), .lit (.int .u32 2821834349), .lit (.int .u32 2952996808), .lit (.int .u32 3210313671), .lit (.int .u32 3336571891), .lit (.int .u32 3584528711), .lit (.int .u32 113926993), .lit (.int .u32 338241895), .lit (.int .u32 666307205), .lit (.int .u32 773529912), .lit (.int .u32 1294757372), .lit (.int .u32 1396182291), .lit (.int .u32 1695183700), .lit (.int .u32 1986661051), .lit (.int .u32 2177026350), .lit (.int .u32 2456956037), .lit (.int .u32 2730485921), .lit (.int .u32 2820302411), .lit (.int .u32 3259730800), .lit (.int .u32 3345764771), .lit (.int .u32 3516065817), .lit (.int .u32 3600352804), .lit (.int .u32 4094571909), .lit (.int .u32 275423344), .lit (.int .u32 430227734), .lit (.int .u32 506948616), .lit (.int .u32 659060556), .lit (.int .u32 883997877), .lit (.int .u32 958139571), .lit (.int .u32 1322822218), .lit (.int .u32 1537002063), .lit (.int .u32 1747873779), .lit (.int .u32 1955562222), .lit (.int .u32 2024104815), .lit (.int .u32 2227730452), .lit (.int .u32 2361852424), .lit (.int .u32 2428436474), .lit (.int .u32 2756734187), .lit (.int .u32 3204031479), .lit (.int .u32 3329325298)]
def laid_unicode_utf8_acceptRanges {H : Type} : DataW H := .agg [.agg [.lit (.int .u8 128), .lit (.int .u8 191)], .agg [.lit (.int .u8 160), .lit (.int .u8 191)], .agg [.lit (.int .u8 128), .lit (.int .u8 159)], .agg [.lit (.int .u8 144), .lit (.int .u8 191)], .agg [.lit (.int .u8 128), .lit (.int .u8 143)], .agg [.lit (.int .u8 0), .lit (.int .u8 0)], .agg [.lit (.int .u8 0), .lit (.int .u8 0)], .agg [.lit (.int .u8 0), .lit (.int .u8 0)], .agg [.lit (.int .u8 0), .lit (.int .u8 0)], .agg [.lit (.int .u8 0), .lit (.int .u8 0)], .agg [.lit (.int .u8 0), .lit (.int .u8 0)], .agg [.lit (.int .u8 0), .lit (.int .u8 0)], .agg [.lit (.int .u8 0), .lit (.int .u8 0)], .agg [.lit (.int .u8 0), .lit (.int .u8 0)], .agg [.lit (.int .u8 0), .lit (.int .u8 0)], .agg [.lit (.int .u8 0), .lit (.int .u8 0)]]
def laid_errors_errorType {H : Type} : DataW H := .iface "internal/reflectlite.rtype" (.agg [.ptr (.lit (.string [101, 114, 114, 111, 114]))])
def laid_drayage_digest_turns {H : Type} : DataW H := .agg [.agg [.lit (.int .i64 7), .lit (.int .i64 12), .lit (.int .i64 17), .lit (.int .i64 22)], .agg [.lit (.int .i64 5), .lit (.int .i64 9), .lit (.int .i64 14), .lit (.int .i64 20)], .agg [.lit (.int .i64 4), .lit (.int .i64 11), .lit (.int .i64 16), .lit (.int .i64 23)], .agg [.lit (.int .i64 6), .lit (.int .i64 10), .lit (.int .i64 15), .lit (.int .i64 21)]]
def laid_drayage_version_words {H : Type} : DataW H := .agg [.lit (.string [97, 108, 112, 104, 97]), .lit (.string [98, 101, 116, 97]), .lit (.string [112, 114, 101]), .lit (.string [114, 99]), .lit (.string [99, 118, 115]), .lit (.string [115, 118, 110]), .lit (.string [103, 105, 116]), .lit (.string [104, 103]), .lit (.string [112])]
def laid_drayage_adep_signs {H : Type} : DataW H := .agg [.lit (.string []), .lit (.string [60]), .lit (.string [60, 61]), .lit (.string [61]), .lit (.string [62, 61]), .lit (.string [62]), .lit (.string [126])]
def laid_drayage_ddep_signs {H : Type} : DataW H := .agg [.lit (.string []), .lit (.string [60, 60]), .lit (.string [60, 61]), .lit (.string [61]), .lit (.string [62, 61]), .lit (.string [62, 62])]
def laid_drayage_rdep_signs {H : Type} : DataW H := .agg [.lit (.string []), .lit (.string [60]), .lit (.string [60, 61]), .lit (.string [61]), .lit (.string [62, 61]), .lit (.string [62])]
def laid_drayage_rdep_words {H : Type} : DataW H := .agg [.lit (.string [97, 110, 100]), .lit (.string [111, 114]), .lit (.string [105, 102]), .lit (.string [117, 110, 108, 101, 115, 115]), .lit (.string [119, 105, 116, 104]), .lit (.string [119, 105, 116, 104, 111, 117, 116])]
/-- One of Go's own tables, pinned by name: the form's constant. -/
def laid_unicode_utf8_first : DataW Unit := Go.Pinned.utf8First

/-- 'drayagelaw30.AuditClean': WHATEVER THE INPUT: true; the input reads as it did. -/
def auditCleanSpec : ChangeSpec := { name := "auditClean", fn := fun _ => fun
  | [d1, d2, d3, d4] => { results := [.lit (.bool true)], args := [d1, d2, d3, d4] }
  | _ => none }
def auditCleanRow : OpenClaim := { program := "ytaohgmcbpafdeaagreatdoor", sum := "a5522514a01befa901600c1182e4baef45f0b6ae50b6c065ee90690291ca7c9c", func := "drayage/drayagelaw30.AuditClean", spec := "auditClean", inPlace := ["internal/bytealg.IndexByteString", "internal/bytealg.IndexString", "internal/abi.NoEscape", "internal/bytealg.MakeNoZero", "internal/reflectlite.ValueOf", "(internal/reflectlite.Value).Type", "(internal/reflectlite.Value).IsNil", "internal/reflectlite.TypeOf", "(internal/reflectlite.Value).Elem", "(internal/reflectlite.Value).Set", "internal/bytealg.CountString", "internal/bytealg.abigen_runtime_cmpstring"], unfollowed := true, recurses := true, named := ["internal/bytealg.MaxLen", "drayage/version.words", "drayage/ddep.signs", "drayage/rdep.words", "drayage/rdep.signs", "drayage/adep.signs", "errors.errorType", "unicode/utf8.first", "unicode/utf8.acceptRanges", "drayage/api.Md5Table", "drayage/digest.turns", "drayage/api.ShaTable"], plainKeys := false, apart := false, laid := [("drayage/api.Md5Table", laid_drayage_api_Md5Table), ("drayage/api.ShaTable", laid_drayage_api_ShaTable), ("unicode/utf8.acceptRanges", laid_unicode_utf8_acceptRanges), ("errors.errorType", laid_errors_errorType), ("drayage/digest.turns", laid_drayage_digest_turns), ("drayage/version.words", laid_drayage_version_words), ("drayage/adep.signs", laid_drayage_adep_signs), ("drayage/ddep.signs", laid_drayage_ddep_signs), ("drayage/rdep.signs", laid_drayage_rdep_signs), ("drayage/rdep.words", laid_drayage_rdep_words), ("unicode/utf8.first", laid_unicode_utf8_first)] }
def AuditCleanSaid : Prop := auditCleanRow.holds Tryz.pinned (OpenSpec.ofChange auditCleanSpec)

/-- ITS FALSE NEIGHBOUR: 'it returns false'. Refute it at one input. -/
def auditCleanWrong : ChangeSpec := { name := "auditClean", fn := fun _ => fun
  | [d1, d2, d3, d4] => { results := [.lit (.bool false)], args := [d1, d2, d3, d4] }
  | _ => none }
def AuditCleanWrongFalsely : Prop := auditCleanRow.holds Tryz.pinned (OpenSpec.ofChange auditCleanWrong)

/- THE SECOND FORM. 'bulk': how many values and letters a reading holds, each counted each time it is reached (what is shared counts as often as it is met; a slice's spare places count too). A statement '..UptoSaid' is the law's where the arguments, and the package variables that the reading takes, are together of bulk at most 1048576: NARROWER than '..Said'. Prove '..Said' where nothing that the law and all that it calls make is longer than what came in: it says more and counts as full. Else prove '..UptoSaid'. A law counts once. -/
mutual
def uptoBulk {H : Type} : DataW H → Nat
  | .lit (.string bytes) => bytes.length + 1
  | .lit _ => 1
  | .nil => 1
  | .ptr d => uptoBulk d + 1
  | .slice elems spare => uptoBulkAll elems + uptoBulkAll spare + 1
  | .agg parts => uptoBulkAll parts + 1
  | .iface _ d => uptoBulk d + 1
  | .map entries => uptoBulkEntries entries + 1
  | .held _ => 1
def uptoBulkAll {H : Type} : List (DataW H) → Nat
  | [] => 0
  | d :: r => uptoBulk d + uptoBulkAll r
def uptoBulkEntries {H : Type} : List (Lit × DataW H) → Nat
  | [] => 0
  | x :: r => uptoBulkEntry x + uptoBulkEntries r
def uptoBulkEntry {H : Type} : Lit × DataW H → Nat
  | (.string bytes, d) => bytes.length + uptoBulk d + 1
  | (_, d) => uptoBulk d + 1
 end
def uptoSmall : (H : Type) → List (DataW H) → Bool := fun _ ds => decide (uptoBulkAll ds ≤ 1048576)
def OpenSpec.upto (s : _root_.Go.ChangeSpec) : _root_.Go.OpenSpec := { _root_.Go.OpenSpec.ofChange s with cond := some uptoSmall }

/-- 'drayagelaw30.AuditClean', WHERE WHAT IT READS IS OF BULK AT MOST 1048576: true; the input reads as it did. -/
def auditCleanUptoRow : OpenClaim := { program := "ytaohgmcbpafdeaagreatdoor", sum := "a5522514a01befa901600c1182e4baef45f0b6ae50b6c065ee90690291ca7c9c", func := "drayage/drayagelaw30.AuditClean", spec := "auditClean", inPlace := ["internal/bytealg.IndexByteString", "internal/bytealg.IndexString", "internal/abi.NoEscape", "internal/bytealg.MakeNoZero", "internal/reflectlite.ValueOf", "(internal/reflectlite.Value).Type", "(internal/reflectlite.Value).IsNil", "internal/reflectlite.TypeOf", "(internal/reflectlite.Value).Elem", "(internal/reflectlite.Value).Set", "internal/bytealg.CountString", "internal/bytealg.abigen_runtime_cmpstring"], unfollowed := true, recurses := true, named := ["internal/bytealg.MaxLen", "drayage/version.words", "drayage/ddep.signs", "drayage/rdep.words", "drayage/rdep.signs", "drayage/adep.signs", "errors.errorType", "unicode/utf8.first", "unicode/utf8.acceptRanges", "drayage/api.Md5Table", "drayage/digest.turns", "drayage/api.ShaTable"], plainKeys := false, apart := false, laid := [("drayage/api.Md5Table", laid_drayage_api_Md5Table), ("drayage/api.ShaTable", laid_drayage_api_ShaTable), ("unicode/utf8.acceptRanges", laid_unicode_utf8_acceptRanges), ("errors.errorType", laid_errors_errorType), ("drayage/digest.turns", laid_drayage_digest_turns), ("drayage/version.words", laid_drayage_version_words), ("drayage/adep.signs", laid_drayage_adep_signs), ("drayage/ddep.signs", laid_drayage_ddep_signs), ("drayage/rdep.signs", laid_drayage_rdep_signs), ("drayage/rdep.words", laid_drayage_rdep_words), ("unicode/utf8.first", laid_unicode_utf8_first)], narrowed := true }
def AuditCleanUptoSaid : Prop := auditCleanUptoRow.holds Tryz.pinned (OpenSpec.upto auditCleanSpec)

end Rows
end Go.Proofs.YtaohgmcbpafdeaaGreatDoor
