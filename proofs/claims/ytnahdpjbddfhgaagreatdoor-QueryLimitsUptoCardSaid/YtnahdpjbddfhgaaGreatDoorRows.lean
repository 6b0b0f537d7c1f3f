/-
  NARROWER THAN 'FOR EVERY INPUT', by the rows' own cells (each row's printed sentence says how): QueryParses: laid · QueryHolds: laid · QueryBack: laid · QueryParts: laid · QueryLimits: laid.
  DERIVED. THE GIVEN ROWS OF THIS SEAT. 5 by the template 'for every input the law returns true; each argument reads behind the call as it read before'; 0 by the template 'total and deterministic' (their statements: YtnahdpjbddfhgaaGreatDoorTotals.lean).
  GIVEN WITH THE SEED: the statements are not yours to turn. If you find one false, say at which input.
  Laid BY PROGRAM, IN A SANDBOX (cutbox-rows.mjs): the forced cells as the released guide's own fill.sh prints them over the translation 91432fe378320d5d… (all of the seat's roots in one cut). By AI agents, Wed Nov 11 2026. No macro, syntax, notation, axiom, sorry.
-/
import Derived.Test.YtnahdpjbddfhgaaGreatDoorChecked
import GoSem.PinnedTables
import GoSem.Claim
import GoSem.ClaimJoined
import GoSem.ClaimMapViews
import Derived.JoinedTies
import Derived.KernelRfl
namespace Go.Proofs.YtnahdpjbddfhgaaGreatDoor
/- THE CELL 'sum', in the pinned program and in every row, IS THE sha256 OF THE DUMP (.gsa) THAT YtnahdpjbddfhgaaGreatDoorProg.lean LOADS. Nothing in Lean hashes anything: it is a label: what it is worth is what the hold of that sum in a sandbox is worth. -/
noncomputable def Tryz.pinned : Pinned := { name := "ytnahdpjbddfhgaagreatdoor", sum := "91432fe378320d5dd070c1ddcb2ccf4a1e2655a77c8b74f067aa204bc0bd0c03", checked := Tryz.checked }
namespace Rows
def none {H : Type} : Left H := { results := [], args := [] }

/- WHAT THE LISTED PACKAGE-LEVEL VARIABLES READ AS WHEN THE CALL BEGINS. Each datum BY PROGRAM (the guide's laid-datum.mjs) off the statement by which the dump's own 'gosem.cut.vars' lays the variable. In a bare row this is a premise. The card (YtnahdpjbddfhgaaGreatDoorCards.lean) ties it to the program's text. -/
def laid_unicode_utf8_acceptRanges {H : Type} : DataW H := .agg [.agg [.lit (.int .u8 128), .lit (.int .u8 191)], .agg [.lit (.int .u8 160), .lit (.int .u8 191)], .agg [.lit (.int .u8 128), .lit (.int .u8 159)], .agg [.lit (.int .u8 144), .lit (.int .u8 191)], .agg [.lit (.int .u8 128), .lit (.int .u8 143)], .agg [.lit (.int .u8 0), .lit (.int .u8 0)], .agg [.lit (.int .u8 0), .lit (.int .u8 0)], .agg [.lit (.int .u8 0), .lit (.int .u8 0)], .agg [.lit (.int .u8 0), .lit (.int .u8 0)], .agg [.lit (.int .u8 0), .lit (.int .u8 0)], .agg [.lit (.int .u8 0), .lit (.int .u8 0)], .agg [.lit (.int .u8 0), .lit (.int .u8 0)], .agg [.lit (.int .u8 0), .lit (.int .u8 0)], .agg [.lit (.int .u8 0), .lit (.int .u8 0)], .agg [.lit (.int .u8 0), .lit (.int .u8 0)], .agg [.lit (.int .u8 0), .lit (.int .u8 0)]]
/-- One of Go's own tables, pinned by name: the form's constant. -/
def laid_unicode_utf8_first : DataW Unit := Go.Pinned.utf8First

/-- 'garnerlaw24.QueryParses': WHATEVER THE INPUT: true; the input reads as it did. -/
def queryParsesSpec : ChangeSpec := { name := "queryParses", fn := fun _ => fun
  | [d] => { results := [.lit (.bool true)], args := [d] }
  | _ => none }
def queryParsesRow : OpenClaim := { program := "ytnahdpjbddfhgaagreatdoor", sum := "91432fe378320d5dd070c1ddcb2ccf4a1e2655a77c8b74f067aa204bc0bd0c03", func := "garner/garnerlaw24.QueryParses", spec := "queryParses", inPlace := ["internal/bytealg.IndexByteString", "internal/bytealg.IndexString", "internal/bytealg.CountString", "internal/abi.NoEscape", "internal/bytealg.MakeNoZero"], unfollowed := true, recurses := true, named := ["unicode/utf8.first", "unicode/utf8.acceptRanges", "internal/bytealg.MaxLen"], apart := false, laid := [("unicode/utf8.acceptRanges", laid_unicode_utf8_acceptRanges), ("unicode/utf8.first", laid_unicode_utf8_first)] }
def QueryParsesSaid : Prop := queryParsesRow.holds Tryz.pinned (OpenSpec.ofChange queryParsesSpec)

/-- ITS FALSE NEIGHBOUR: 'it returns false'. Refute it at one input. -/
def queryParsesWrong : ChangeSpec := { name := "queryParses", fn := fun _ => fun
  | [d] => { results := [.lit (.bool false)], args := [d] }
  | _ => none }
def QueryParsesWrongFalsely : Prop := queryParsesRow.holds Tryz.pinned (OpenSpec.ofChange queryParsesWrong)

/-- 'garnerlaw24.QueryHolds': WHATEVER THE INPUT: true; the input reads as it did. -/
def queryHoldsSpec : ChangeSpec := { name := "queryHolds", fn := fun _ => fun
  | [d1, d2] => { results := [.lit (.bool true)], args := [d1, d2] }
  | _ => none }
def queryHoldsRow : OpenClaim := { program := "ytnahdpjbddfhgaagreatdoor", sum := "91432fe378320d5dd070c1ddcb2ccf4a1e2655a77c8b74f067aa204bc0bd0c03", func := "garner/garnerlaw24.QueryHolds", spec := "queryHolds", inPlace := ["internal/bytealg.IndexByteString", "internal/bytealg.IndexString", "internal/bytealg.CountString", "internal/abi.NoEscape", "internal/bytealg.MakeNoZero"], unfollowed := true, recurses := true, named := ["unicode/utf8.first", "unicode/utf8.acceptRanges", "internal/bytealg.MaxLen"], apart := false, laid := [("unicode/utf8.acceptRanges", laid_unicode_utf8_acceptRanges), ("unicode/utf8.first", laid_unicode_utf8_first)] }
def QueryHoldsSaid : Prop := queryHoldsRow.holds Tryz.pinned (OpenSpec.ofChange queryHoldsSpec)

/-- ITS FALSE NEIGHBOUR: 'it returns false'. Refute it at one input. -/
def queryHoldsWrong : ChangeSpec := { name := "queryHolds", fn := fun _ => fun
  | [d1, d2] => { results := [.lit (.bool false)], args := [d1, d2] }
  | _ => none }
def QueryHoldsWrongFalsely : Prop := queryHoldsRow.holds Tryz.pinned (OpenSpec.ofChange queryHoldsWrong)

/-- 'garnerlaw24.QueryBack': WHATEVER THE INPUT: true; the input reads as it did. -/
def queryBackSpec : ChangeSpec := { name := "queryBack", fn := fun _ => fun
  | [d1, d2, d3] => { results := [.lit (.bool true)], args := [d1, d2, d3] }
  | _ => none }
def queryBackRow : OpenClaim := { program := "ytnahdpjbddfhgaagreatdoor", sum := "91432fe378320d5dd070c1ddcb2ccf4a1e2655a77c8b74f067aa204bc0bd0c03", func := "garner/garnerlaw24.QueryBack", spec := "queryBack", inPlace := ["internal/bytealg.IndexByteString", "internal/bytealg.IndexString", "internal/bytealg.CountString", "internal/abi.NoEscape", "internal/bytealg.MakeNoZero"], unfollowed := true, recurses := true, named := ["unicode/utf8.first", "unicode/utf8.acceptRanges", "internal/bytealg.MaxLen"], apart := false, laid := [("unicode/utf8.acceptRanges", laid_unicode_utf8_acceptRanges), ("unicode/utf8.first", laid_unicode_utf8_first)] }
def QueryBackSaid : Prop := queryBackRow.holds Tryz.pinned (OpenSpec.ofChange queryBackSpec)

/-- ITS FALSE NEIGHBOUR: 'it returns false'. Refute it at one input. -/
def queryBackWrong : ChangeSpec := { name := "queryBack", fn := fun _ => fun
  | [d1, d2, d3] => { results := [.lit (.bool false)], args := [d1, d2, d3] }
  | _ => none }
def QueryBackWrongFalsely : Prop := queryBackRow.holds Tryz.pinned (OpenSpec.ofChange queryBackWrong)

/-- 'garnerlaw24.QueryParts': WHATEVER THE INPUT: true; the input reads as it did. -/
def queryPartsSpec : ChangeSpec := { name := "queryParts", fn := fun _ => fun
  | [d1, d2] => { results := [.lit (.bool true)], args := [d1, d2] }
  | _ => none }
def queryPartsRow : OpenClaim := { program := "ytnahdpjbddfhgaagreatdoor", sum := "91432fe378320d5dd070c1ddcb2ccf4a1e2655a77c8b74f067aa204bc0bd0c03", func := "garner/garnerlaw24.QueryParts", spec := "queryParts", inPlace := ["internal/bytealg.IndexByteString", "internal/bytealg.IndexString", "internal/bytealg.CountString", "internal/abi.NoEscape", "internal/bytealg.MakeNoZero"], unfollowed := true, recurses := true, named := ["unicode/utf8.first", "unicode/utf8.acceptRanges", "internal/bytealg.MaxLen"], apart := false, laid := [("unicode/utf8.acceptRanges", laid_unicode_utf8_acceptRanges), ("unicode/utf8.first", laid_unicode_utf8_first)] }
def QueryPartsSaid : Prop := queryPartsRow.holds Tryz.pinned (OpenSpec.ofChange queryPartsSpec)

/-- ITS FALSE NEIGHBOUR: 'it returns false'. Refute it at one input. -/
def queryPartsWrong : ChangeSpec := { name := "queryParts", fn := fun _ => fun
  | [d1, d2] => { results := [.lit (.bool false)], args := [d1, d2] }
  | _ => none }
def QueryPartsWrongFalsely : Prop := queryPartsRow.holds Tryz.pinned (OpenSpec.ofChange queryPartsWrong)

/-- 'garnerlaw24.QueryLimits': WHATEVER THE INPUT: true; the input reads as it did. -/
def queryLimitsSpec : ChangeSpec := { name := "queryLimits", fn := fun _ => fun
  | [d1, d2] => { results := [.lit (.bool true)], args := [d1, d2] }
  | _ => none }
def queryLimitsRow : OpenClaim := { program := "ytnahdpjbddfhgaagreatdoor", sum := "91432fe378320d5dd070c1ddcb2ccf4a1e2655a77c8b74f067aa204bc0bd0c03", func := "garner/garnerlaw24.QueryLimits", spec := "queryLimits", inPlace := ["internal/bytealg.IndexByteString", "internal/bytealg.IndexString", "internal/bytealg.CountString", "internal/abi.NoEscape", "internal/bytealg.MakeNoZero"], unfollowed := true, recurses := true, named := ["unicode/utf8.first", "unicode/utf8.acceptRanges", "internal/bytealg.MaxLen"], apart := false, laid := [("unicode/utf8.acceptRanges", laid_unicode_utf8_acceptRanges), ("unicode/utf8.first", laid_unicode_utf8_first)] }
def QueryLimitsSaid : Prop := queryLimitsRow.holds Tryz.pinned (OpenSpec.ofChange queryLimitsSpec)

/-- ITS FALSE NEIGHBOUR: 'it returns false'. Refute it at one input. -/
def queryLimitsWrong : ChangeSpec := { name := "queryLimits", fn := fun _ => fun
  | [d1, d2] => { results := [.lit (.bool false)], args := [d1, d2] }
  | _ => none }
def QueryLimitsWrongFalsely : Prop := queryLimitsRow.holds Tryz.pinned (OpenSpec.ofChange queryLimitsWrong)

/- THE SECOND FORM. 'bulk': how many values and letters a reading holds, each counted each time it is reached (what is shared counts as often as it is met; a slice's spare places count too). A statement '..UptoSaid' is the law's where the arguments, and the package variables that the reading takes, are together of bulk at most 1048576: NARROWER than '..Said'. Prove '..Said' where nothing that the law and all that it calls make is longer than what came in: it says more and counts as full. Else prove '..UptoSaid'. A law counts once. -/
mutual
def uptoBulk {H : Type} : DataW H → Nat
  | .lit (.string bytes) => bytes.length + 1
  | .lit _ => 1
  | .nil => 1
  | .ptr d => uptoBulk d + 1
  | .slice elems spare => uptoBulkAll elems + uptoBulkAll spare + 1
  | .agg parts => uptoBulkAll parts + 1
  | .iface _ d => uptoBulk d + 1
  | .map entries => uptoBulkEntries entries + 1
  | .held _ => 1
def uptoBulkAll {H : Type} : List (DataW H) → Nat
  | [] => 0
  | d :: r => uptoBulk d + uptoBulkAll r
def uptoBulkEntries {H : Type} : List (Lit × DataW H) → Nat
  | [] => 0
  | x :: r => uptoBulkEntry x + uptoBulkEntries r
def uptoBulkEntry {H : Type} : Lit × DataW H → Nat
  | (.string bytes, d) => bytes.length + uptoBulk d + 1
  | (_, d) => uptoBulk d + 1
 end
def uptoSmall : (H : Type) → List (DataW H) → Bool := fun _ ds => decide (uptoBulkAll ds ≤ 1048576)
def OpenSpec.upto (s : _root_.Go.ChangeSpec) : _root_.Go.OpenSpec := { _root_.Go.OpenSpec.ofChange s with cond := some uptoSmall }

/-- 'garnerlaw24.QueryParses', WHERE WHAT IT READS IS OF BULK AT MOST 1048576: true; the input reads as it did. -/
def queryParsesUptoRow : OpenClaim := { program := "ytnahdpjbddfhgaagreatdoor", sum := "91432fe378320d5dd070c1ddcb2ccf4a1e2655a77c8b74f067aa204bc0bd0c03", func := "garner/garnerlaw24.QueryParses", spec := "queryParses", inPlace := ["internal/bytealg.IndexByteString", "internal/bytealg.IndexString", "internal/bytealg.CountString", "internal/abi.NoEscape", "internal/bytealg.MakeNoZero"], unfollowed := true, recurses := true, named := ["unicode/utf8.first", "unicode/utf8.acceptRanges", "internal/bytealg.MaxLen"], apart := false, laid := [("unicode/utf8.acceptRanges", laid_unicode_utf8_acceptRanges), ("unicode/utf8.first", laid_unicode_utf8_first)], narrowed := true }
def QueryParsesUptoSaid : Prop := queryParsesUptoRow.holds Tryz.pinned (OpenSpec.upto queryParsesSpec)

/-- 'garnerlaw24.QueryHolds', WHERE WHAT IT READS IS OF BULK AT MOST 1048576: true; the input reads as it did. -/
def queryHoldsUptoRow : OpenClaim := { program := "ytnahdpjbddfhgaagreatdoor", sum := "91432fe378320d5dd070c1ddcb2ccf4a1e2655a77c8b74f067aa204bc0bd0c03", func := "garner/garnerlaw24.QueryHolds", spec := "queryHolds", inPlace := ["internal/bytealg.IndexByteString", "internal/bytealg.IndexString", "internal/bytealg.CountString", "internal/abi.NoEscape", "internal/bytealg.MakeNoZero"], unfollowed := true, recurses := true, named := ["unicode/utf8.first", "unicode/utf8.acceptRanges", "internal/bytealg.MaxLen"], apart := false, laid := [("unicode/utf8.acceptRanges", laid_unicode_utf8_acceptRanges), ("unicode/utf8.first", laid_unicode_utf8_first)], narrowed := true }
def QueryHoldsUptoSaid : Prop := queryHoldsUptoRow.holds Tryz.pinned (OpenSpec.upto queryHoldsSpec)

/-- 'garnerlaw24.QueryBack', WHERE WHAT IT READS IS OF BULK AT MOST 1048576: true; the input reads as it did. -/
def queryBackUptoRow : OpenClaim := { program := "ytnahdpjbddfhgaagreatdoor", sum := "91432fe378320d5dd070c1ddcb2ccf4a1e2655a77c8b74f067aa204bc0bd0c03", func := "garner/garnerlaw24.QueryBack", spec := "queryBack", inPlace := ["internal/bytealg.IndexByteString", "internal/bytealg.IndexString", "internal/bytealg.CountString", "internal/abi.NoEscape", "internal/bytealg.MakeNoZero"], unfollowed := true, recurses := true, named := ["unicode/utf8.first", "unicode/utf8.acceptRanges", "internal/bytealg.MaxLen"], apart := false, laid := [("unicode/utf8.acceptRanges", laid_unicode_utf8_acceptRanges), ("unicode/utf8.first", laid_unicode_utf8_first)], narrowed := true }
def QueryBackUptoSaid : Prop := queryBackUptoRow.holds Tryz.pinned (OpenSpec.upto queryBackSpec)

/-- 'garnerlaw24.QueryParts', WHERE WHAT IT READS IS OF BULK AT MOST 1048576: true; the input reads as it did. -/
def queryPartsUptoRow : OpenClaim := { program := "ytnahdpjbddfhgaagreatdoor", sum := "91432fe378320d5dd070c1ddcb2ccf4a1e2655a77c8b74f067aa204bc0bd0c03", func := "garner/garnerlaw24.QueryParts", spec := "queryParts", inPlace := ["internal/bytealg.IndexByteString", "internal/bytealg.IndexString", "internal/bytealg.CountString", "internal/abi.NoEscape", "internal/bytealg.MakeNoZero"], unfollowed := true, recurses := true, named := ["unicode/utf8.first", "unicode/utf8.acceptRanges", "internal/bytealg.MaxLen"], apart := false, laid := [("unicode/utf8.acceptRanges", laid_unicode_utf8_acceptRanges), ("unicode/utf8.first", laid_unicode_utf8_first)], narrowed := true }
def QueryPartsUptoSaid : Prop := queryPartsUptoRow.holds Tryz.pinned (OpenSpec.upto queryPartsSpec)

/-- 'garnerlaw24.QueryLimits', WHERE WHAT IT READS IS OF BULK AT MOST 1048576: true; the input reads as it did. -/
def queryLimitsUptoRow : OpenClaim := { program := "ytnahdpjbddfhgaagreatdoor", sum := "91432fe378320d5dd070c1ddcb2ccf4a1e2655a77c8b74f067aa204bc0bd0c03", func := "garner/garnerlaw24.QueryLimits", spec := "queryLimits", inPlace := ["internal/bytealg.IndexByteString", "internal/bytealg.IndexString", "internal/bytealg.CountString", "internal/abi.NoEscape", "internal/bytealg.MakeNoZero"], unfollowed := true, recurses := true, named := ["unicode/utf8.first", "unicode/utf8.acceptRanges", "internal/bytealg.MaxLen"], apart := false, laid := [("unicode/utf8.acceptRanges", laid_unicode_utf8_acceptRanges), ("unicode/utf8.first", laid_unicode_utf8_first)], narrowed := true }
def QueryLimitsUptoSaid : Prop := queryLimitsUptoRow.holds Tryz.pinned (OpenSpec.upto queryLimitsSpec)

end Rows
end Go.Proofs.YtnahdpjbddfhgaaGreatDoor
