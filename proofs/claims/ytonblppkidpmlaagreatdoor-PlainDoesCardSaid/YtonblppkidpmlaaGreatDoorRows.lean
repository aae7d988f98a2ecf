/-
  NARROWER THAN 'FOR EVERY INPUT', by the rows' own cells (each row's printed sentence says how): PlainChecks: laid · PlainPages: laid · PlainCas: laid · PlainQueries: laid · PlainDoes: laid · PlainKeeps: laid.
  DERIVED. THE GIVEN ROWS OF THIS SEAT. 6 by the template 'for every input the law returns true; each argument reads behind the call as it read before'; 0 by the template 'total and deterministic' (their statements: YtonblppkidpmlaaGreatDoorTotals.lean).
  GIVEN WITH THE SEED: the statements are not yours to turn. If you find one false, say at which input.
  Laid BY PROGRAM, IN A SANDBOX (cutbox-rows.mjs): the forced cells as the released guide's own fill.sh prints them over the translation c476bfcb7f37db20… (all of the seat's roots in one cut). By AI agents, Wed Nov 11 2026. No macro, syntax, notation, axiom, sorry.
-/
import Derived.Test.YtonblppkidpmlaaGreatDoorChecked
import GoSem.PinnedTables
import GoSem.Claim
import GoSem.ClaimJoined
import GoSem.ClaimMapViews
import Derived.JoinedTies
import Derived.KernelRfl
namespace Go.Proofs.YtonblppkidpmlaaGreatDoor
/- THE CELL 'sum', in the pinned program and in every row, IS THE sha256 OF THE DUMP (.gsa) THAT YtonblppkidpmlaaGreatDoorProg.lean LOADS. Nothing in Lean hashes anything: it is a label: what it is worth is what the hold of that sum in a sandbox is worth. -/
noncomputable def Tryz.pinned : Pinned := { name := "ytonblppkidpmlaagreatdoor", sum := "c476bfcb7f37db207ee1fa7b1dbd681365bd64165189f4b7564274bc19a804b9", checked := Tryz.checked }
namespace Rows
def none {H : Type} : Left H := { results := [], args := [] }

/- WHAT THE LISTED PACKAGE-LEVEL VARIABLES READ AS WHEN THE CALL BEGINS. Each datum BY PROGRAM (the guide's laid-datum.mjs) off the statement by which the dump's own 'gosem.cut.vars' lays the variable. In a bare row this is a premise. The card (YtonblppkidpmlaaGreatDoorCards.lean) ties it to the program's text. -/
def laid_unicode_utf8_acceptRanges {H : Type} : DataW H := .agg [.agg [.lit (.int .u8 128), .lit (.int .u8 191)], .agg [.lit (.int .u8 160), .lit (.int .u8 191)], .agg [.lit (.int .u8 128), .lit (.int .u8 159)], .agg [.lit (.int .u8 144), .lit (.int .u8 191)], .agg [.lit (.int .u8 128), .lit (.int .u8 143)], .agg [.lit (.int .u8 0), .lit (.int .u8 0)], .agg [.lit (.int .u8 0), .lit (.int .u8 0)], .agg [.lit (.int .u8 0), .lit (.int .u8 0)], .agg [.lit (.int .u8 0), .lit (.int .u8 0)], .agg [.lit (.int .u8 0), .lit (.int .u8 0)], .agg [.lit (.int .u8 0), .lit (.int .u8 0)], .agg [.lit (.int .u8 0), .lit (.int .u8 0)], .agg [.lit (.int .u8 0), .lit (.int .u8 0)], .agg [.lit (.int .u8 0), .lit (.int .u8 0)], .agg [.lit (.int .u8 0), .lit (.int .u8 0)], .agg [.lit (.int .u8 0), .lit (.int .u8 0)]]
/-- One of Go's own tables, pinned by name: the form's constant. -/
def laid_unicode_utf8_first : DataW Unit := Go.Pinned.utf8First

/-- 'shelfmarklaw05.PlainChecks': WHATEVER THE INPUT: true; the input reads as it did. -/
def plainChecksSpec : ChangeSpec := { name := "plainChecks", fn := fun _ => fun
  | [d] => { results := [.lit (.bool true)], args := [d] }
  | _ => none }
def plainChecksRow : OpenClaim := { program := "ytonblppkidpmlaagreatdoor", sum := "c476bfcb7f37db207ee1fa7b1dbd681365bd64165189f4b7564274bc19a804b9", func := "shelfmark/shelfmarklaw05.PlainChecks", spec := "plainChecks", inPlace := ["internal/bytealg.CountString", "internal/bytealg.IndexByteString", "internal/bytealg.IndexString", "internal/abi.NoEscape", "internal/bytealg.MakeNoZero"], unfollowed := true, recurses := true, named := ["internal/bytealg.MaxLen", "unicode/utf8.first", "unicode/utf8.acceptRanges"], apart := false, laid := [("unicode/utf8.acceptRanges", laid_unicode_utf8_acceptRanges), ("unicode/utf8.first", laid_unicode_utf8_first)] }
def PlainChecksSaid : Prop := plainChecksRow.holds Tryz.pinned (OpenSpec.ofChange plainChecksSpec)

/-- ITS FALSE NEIGHBOUR: 'it returns false'. Refute it at one input. -/
def plainChecksWrong : ChangeSpec := { name := "plainChecks", fn := fun _ => fun
  | [d] => { results := [.lit (.bool false)], args := [d] }
  | _ => none }
def PlainChecksWrongFalsely : Prop := plainChecksRow.holds Tryz.pinned (OpenSpec.ofChange plainChecksWrong)

/-- 'shelfmarklaw05.PlainPages': WHATEVER THE INPUT: true; the input reads as it did. -/
def plainPagesSpec : ChangeSpec := { name := "plainPages", fn := fun _ => fun
  | [d1, d2, d3, d4] => { results := [.lit (.bool true)], args := [d1, d2, d3, d4] }
  | _ => none }
def plainPagesRow : OpenClaim := { program := "ytonblppkidpmlaagreatdoor", sum := "c476bfcb7f37db207ee1fa7b1dbd681365bd64165189f4b7564274bc19a804b9", func := "shelfmark/shelfmarklaw05.PlainPages", spec := "plainPages", inPlace := ["internal/bytealg.CountString", "internal/bytealg.IndexByteString", "internal/bytealg.IndexString", "internal/abi.NoEscape", "internal/bytealg.MakeNoZero"], unfollowed := true, recurses := true, named := ["internal/bytealg.MaxLen", "unicode/utf8.first", "unicode/utf8.acceptRanges"], apart := false, laid := [("unicode/utf8.acceptRanges", laid_unicode_utf8_acceptRanges), ("unicode/utf8.first", laid_unicode_utf8_first)] }
def PlainPagesSaid : Prop := plainPagesRow.holds Tryz.pinned (OpenSpec.ofChange plainPagesSpec)

/-- ITS FALSE NEIGHBOUR: 'it returns false'. Refute it at one input. -/
def plainPagesWrong : ChangeSpec := { name := "plainPages", fn := fun _ => fun
  | [d1, d2, d3, d4] => { results := [.lit (.bool false)], args := [d1, d2, d3, d4] }
  | _ => none }
def PlainPagesWrongFalsely : Prop := plainPagesRow.holds Tryz.pinned (OpenSpec.ofChange plainPagesWrong)

/-- 'shelfmarklaw05.PlainCas': WHATEVER THE INPUT: true; the input reads as it did. -/
def plainCasSpec : ChangeSpec := { name := "plainCas", fn := fun _ => fun
  | [d1, d2, d3, d4, d5] => { results := [.lit (.bool true)], args := [d1, d2, d3, d4, d5] }
  | _ => none }
def plainCasRow : OpenClaim := { program := "ytonblppkidpmlaagreatdoor", sum := "c476bfcb7f37db207ee1fa7b1dbd681365bd64165189f4b7564274bc19a804b9", func := "shelfmark/shelfmarklaw05.PlainCas", spec := "plainCas", inPlace := ["internal/bytealg.CountString", "internal/bytealg.IndexByteString", "internal/bytealg.IndexString", "internal/abi.NoEscape", "internal/bytealg.MakeNoZero"], unfollowed := true, recurses := true, named := ["internal/bytealg.MaxLen", "unicode/utf8.first", "unicode/utf8.acceptRanges"], apart := false, laid := [("unicode/utf8.acceptRanges", laid_unicode_utf8_acceptRanges), ("unicode/utf8.first", laid_unicode_utf8_first)] }
def PlainCasSaid : Prop := plainCasRow.holds Tryz.pinned (OpenSpec.ofChange plainCasSpec)

/-- ITS FALSE NEIGHBOUR: 'it returns false'. Refute it at one input. -/
def plainCasWrong : ChangeSpec := { name := "plainCas", fn := fun _ => fun
  | [d1, d2, d3, d4, d5] => { results := [.lit (.bool false)], args := [d1, d2, d3, d4, d5] }
  | _ => none }
def PlainCasWrongFalsely : Prop := plainCasRow.holds Tryz.pinned (OpenSpec.ofChange plainCasWrong)

/-- 'shelfmarklaw05.PlainQueries': WHATEVER THE INPUT: true; the input reads as it did. -/
def plainQueriesSpec : ChangeSpec := { name := "plainQueries", fn := fun _ => fun
  | [d1, d2, d3, d4] => { results := [.lit (.bool true)], args := [d1, d2, d3, d4] }
  | _ => none }
def plainQueriesRow : OpenClaim := { program := "ytonblppkidpmlaagreatdoor", sum := "c476bfcb7f37db207ee1fa7b1dbd681365bd64165189f4b7564274bc19a804b9", func := "shelfmark/shelfmarklaw05.PlainQueries", spec := "plainQueries", inPlace := ["internal/bytealg.CountString", "internal/bytealg.IndexByteString", "internal/bytealg.IndexString", "internal/abi.NoEscape", "internal/bytealg.MakeNoZero"], unfollowed := true, recurses := true, named := ["internal/bytealg.MaxLen", "unicode/utf8.first", "unicode/utf8.acceptRanges"], apart := false, laid := [("unicode/utf8.acceptRanges", laid_unicode_utf8_acceptRanges), ("unicode/utf8.first", laid_unicode_utf8_first)] }
def PlainQueriesSaid : Prop := plainQueriesRow.holds Tryz.pinned (OpenSpec.ofChange plainQueriesSpec)

/-- ITS FALSE NEIGHBOUR: 'it returns false'. Refute it at one input. -/
def plainQueriesWrong : ChangeSpec := { name := "plainQueries", fn := fun _ => fun
  | [d1, d2, d3, d4] => { results := [.lit (.bool false)], args := [d1, d2, d3, d4] }
  | _ => none }
def PlainQueriesWrongFalsely : Prop := plainQueriesRow.holds Tryz.pinned (OpenSpec.ofChange plainQueriesWrong)

/-- 'shelfmarklaw05.PlainDoes': WHATEVER THE INPUT: true; the input reads as it did. -/
def plainDoesSpec : ChangeSpec := { name := "plainDoes", fn := fun _ => fun
  | [d] => { results := [.lit (.bool true)], args := [d] }
  | _ => none }
def plainDoesRow : OpenClaim := { program := "ytonblppkidpmlaagreatdoor", sum := "c476bfcb7f37db207ee1fa7b1dbd681365bd64165189f4b7564274bc19a804b9", func := "shelfmark/shelfmarklaw05.PlainDoes", spec := "plainDoes", inPlace := ["internal/bytealg.CountString", "internal/bytealg.IndexByteString", "internal/bytealg.IndexString", "internal/abi.NoEscape", "internal/bytealg.MakeNoZero"], unfollowed := true, recurses := true, named := ["internal/bytealg.MaxLen", "unicode/utf8.first", "unicode/utf8.acceptRanges"], apart := false, laid := [("unicode/utf8.acceptRanges", laid_unicode_utf8_acceptRanges), ("unicode/utf8.first", laid_unicode_utf8_first)] }
def PlainDoesSaid : Prop := plainDoesRow.holds Tryz.pinned (OpenSpec.ofChange plainDoesSpec)

/-- ITS FALSE NEIGHBOUR: 'it returns false'. Refute it at one input. -/
def plainDoesWrong : ChangeSpec := { name := "plainDoes", fn := fun _ => fun
  | [d] => { results := [.lit (.bool false)], args := [d] }
  | _ => none }
def PlainDoesWrongFalsely : Prop := plainDoesRow.holds Tryz.pinned (OpenSpec.ofChange plainDoesWrong)

/-- 'shelfmarklaw05.PlainKeeps': WHATEVER THE INPUT: true; the input reads as it did. -/
def plainKeepsSpec : ChangeSpec := { name := "plainKeeps", fn := fun _ => fun
  | [d1, d2, d3] => { results := [.lit (.bool true)], args := [d1, d2, d3] }
  | _ => none }
def plainKeepsRow : OpenClaim := { program := "ytonblppkidpmlaagreatdoor", sum := "c476bfcb7f37db207ee1fa7b1dbd681365bd64165189f4b7564274bc19a804b9", func := "shelfmark/shelfmarklaw05.PlainKeeps", spec := "plainKeeps", inPlace := ["internal/bytealg.CountString", "internal/bytealg.IndexByteString", "internal/bytealg.IndexString", "internal/abi.NoEscape", "internal/bytealg.MakeNoZero"], unfollowed := true, recurses := true, named := ["internal/bytealg.MaxLen", "unicode/utf8.first", "unicode/utf8.acceptRanges"], apart := false, laid := [("unicode/utf8.acceptRanges", laid_unicode_utf8_acceptRanges), ("unicode/utf8.first", laid_unicode_utf8_first)] }
def PlainKeepsSaid : Prop := plainKeepsRow.holds Tryz.pinned (OpenSpec.ofChange plainKeepsSpec)

/-- ITS FALSE NEIGHBOUR: 'it returns false'. Refute it at one input. -/
def plainKeepsWrong : ChangeSpec := { name := "plainKeeps", fn := fun _ => fun
  | [d1, d2, d3] => { results := [.lit (.bool false)], args := [d1, d2, d3] }
  | _ => none }
def PlainKeepsWrongFalsely : Prop := plainKeepsRow.holds Tryz.pinned (OpenSpec.ofChange plainKeepsWrong)

/- THE SECOND FORM. 'bulk': how many values and letters a reading holds, each counted each time it is reached (what is shared counts as often as it is met; a slice's spare places count too). A statement '..UptoSaid' is the law's where the arguments, and the package variables that the reading takes, are together of bulk at most 1048576: NARROWER than '..Said'. Prove '..Said' where nothing that the law and all that it calls make is longer than what came in: it says more and counts as full. Else prove '..UptoSaid'. A law counts once. -/
mutual
def uptoBulk {H : Type} : DataW H → Nat
  | .lit (.string bytes) => bytes.length + 1
  | .lit _ => 1
  | .nil => 1
  | .ptr d => uptoBulk d + 1
  | .slice elems spare => uptoBulkAll elems + uptoBulkAll spare + 1
  | .agg parts => uptoBulkAll parts + 1
  | .iface _ d => uptoBulk d + 1
  | .map entries => uptoBulkEntries entries + 1
  | .held _ => 1
def uptoBulkAll {H : Type} : List (DataW H) → Nat
  | [] => 0
  | d :: r => uptoBulk d + uptoBulkAll r
def uptoBulkEntries {H : Type} : List (Lit × DataW H) → Nat
  | [] => 0
  | x :: r => uptoBulkEntry x + uptoBulkEntries r
def uptoBulkEntry {H : Type} : Lit × DataW H → Nat
  | (.string bytes, d) => bytes.length + uptoBulk d + 1
  | (_, d) => uptoBulk d + 1
 end
def uptoSmall : (H : Type) → List (DataW H) → Bool := fun _ ds => decide (uptoBulkAll ds ≤ 1048576)
def OpenSpec.upto (s : _root_.Go.ChangeSpec) : _root_.Go.OpenSpec := { _root_.Go.OpenSpec.ofChange s with cond := some uptoSmall }

/-- 'shelfmarklaw05.PlainChecks', WHERE WHAT IT READS IS OF BULK AT MOST 1048576: true; the input reads as it did. -/
def plainChecksUptoRow : OpenClaim := { program := "ytonblppkidpmlaagreatdoor", sum := "c476bfcb7f37db207ee1fa7b1dbd681365bd64165189f4b7564274bc19a804b9", func := "shelfmark/shelfmarklaw05.PlainChecks", spec := "plainChecks", inPlace := ["internal/bytealg.CountString", "internal/bytealg.IndexByteString", "internal/bytealg.IndexString", "internal/abi.NoEscape", "internal/bytealg.MakeNoZero"], unfollowed := true, recurses := true, named := ["internal/bytealg.MaxLen", "unicode/utf8.first", "unicode/utf8.acceptRanges"], apart := false, laid := [("unicode/utf8.acceptRanges", laid_unicode_utf8_acceptRanges), ("unicode/utf8.first", laid_unicode_utf8_first)], narrowed := true }
def PlainChecksUptoSaid : Prop := plainChecksUptoRow.holds Tryz.pinned (OpenSpec.upto plainChecksSpec)

/-- 'shelfmarklaw05.PlainPages', WHERE WHAT IT READS IS OF BULK AT MOST 1048576: true; the input reads as it did. -/
def plainPagesUptoRow : OpenClaim := { program := "ytonblppkidpmlaagreatdoor", sum := "c476bfcb7f37db207ee1fa7b1dbd681365bd64165189f4b7564274bc19a804b9", func := "shelfmark/shelfmarklaw05.PlainPages", spec := "plainPages", inPlace := ["internal/bytealg.CountString", "internal/bytealg.IndexByteString", "internal/bytealg.IndexString", "internal/abi.NoEscape", "internal/bytealg.MakeNoZero"], unfollowed := true, recurses := true, named := ["internal/bytealg.MaxLen", "unicode/utf8.first", "unicode/utf8.acceptRanges"], apart := false, laid := [("unicode/utf8.acceptRanges", laid_unicode_utf8_acceptRanges), ("unicode/utf8.first", laid_unicode_utf8_first)], narrowed := true }
def PlainPagesUptoSaid : Prop := plainPagesUptoRow.holds Tryz.pinned (OpenSpec.upto plainPagesSpec)

/-- 'shelfmarklaw05.PlainCas', WHERE WHAT IT READS IS OF BULK AT MOST 1048576: true; the input reads as it did. -/
def plainCasUptoRow : OpenClaim := { program := "ytonblppkidpmlaagreatdoor", sum := "c476bfcb7f37db207ee1fa7b1dbd681365bd64165189f4b7564274bc19a804b9", func := "shelfmark/shelfmarklaw05.PlainCas", spec := "plainCas", inPlace := ["internal/bytealg.CountString", "internal/bytealg.IndexByteString", "internal/bytealg.IndexString", "internal/abi.NoEscape", "internal/bytealg.MakeNoZero"], unfollowed := true, recurses := true, named := ["internal/bytealg.MaxLen", "unicode/utf8.first", "unicode/utf8.acceptRanges"], apart := false, laid := [("unicode/utf8.acceptRanges", laid_unicode_utf8_acceptRanges), ("unicode/utf8.first", laid_unicode_utf8_first)], narrowed := true }
def PlainCasUptoSaid : Prop := plainCasUptoRow.holds Tryz.pinned (OpenSpec.upto plainCasSpec)

/-- 'shelfmarklaw05.PlainQueries', WHERE WHAT IT READS IS OF BULK AT MOST 1048576: true; the input reads as it did. -/
def plainQueriesUptoRow : OpenClaim := { program := "ytonblppkidpmlaagreatdoor", sum := "c476bfcb7f37db207ee1fa7b1dbd681365bd64165189f4b7564274bc19a804b9", func := "shelfmark/shelfmarklaw05.PlainQueries", spec := "plainQueries", inPlace := ["internal/bytealg.CountString", "internal/bytealg.IndexByteString", "internal/bytealg.IndexString", "internal/abi.NoEscape", "internal/bytealg.MakeNoZero"], unfollowed := true, recurses := true, named := ["internal/bytealg.MaxLen", "unicode/utf8.first", "unicode/utf8.acceptRanges"], apart := false, laid := [("unicode/utf8.acceptRanges", laid_unicode_utf8_acceptRanges), ("unicode/utf8.first", laid_unicode_utf8_first)], narrowed := true }
def PlainQueriesUptoSaid : Prop := plainQueriesUptoRow.holds Tryz.pinned (OpenSpec.upto plainQueriesSpec)

/-- 'shelfmarklaw05.PlainDoes', WHERE WHAT IT READS IS OF BULK AT MOST 1048576: true; the input reads as it did. -/
def plainDoesUptoRow : OpenClaim := { program := "ytonblppkidpmlaagreatdoor", sum := "c476bfcb7f37db207ee1fa7b1dbd681365bd64165189f4b7564274bc19a804b9", func := "shelfmark/shelfmarklaw05.PlainDoes", spec := "plainDoes", inPlace := ["internal/bytealg.CountString", "internal/bytealg.IndexByteString", "internal/bytealg.IndexString", "internal/abi.NoEscape", "internal/bytealg.MakeNoZero"], unfollowed := true, recurses := true, named := ["internal/bytealg.MaxLen", "unicode/utf8.first", "unicode/utf8.acceptRanges"], apart := false, laid := [("unicode/utf8.acceptRanges", laid_unicode_utf8_acceptRanges), ("unicode/utf8.first", laid_unicode_utf8_first)], narrowed := true }
def PlainDoesUptoSaid : Prop := plainDoesUptoRow.holds Tryz.pinned (OpenSpec.upto plainDoesSpec)

/-- 'shelfmarklaw05.PlainKeeps', WHERE WHAT IT READS IS OF BULK AT MOST 1048576: true; the input reads as it did. -/
def plainKeepsUptoRow : OpenClaim := { program := "ytonblppkidpmlaagreatdoor", sum := "c476bfcb7f37db207ee1fa7b1dbd681365bd64165189f4b7564274bc19a804b9", func := "shelfmark/shelfmarklaw05.PlainKeeps", spec := "plainKeeps", inPlace := ["internal/bytealg.CountString", "internal/bytealg.IndexByteString", "internal/bytealg.IndexString", "internal/abi.NoEscape", "internal/bytealg.MakeNoZero"], unfollowed := true, recurses := true, named := ["internal/bytealg.MaxLen", "unicode/utf8.first", "unicode/utf8.acceptRanges"], apart := false, laid := [("unicode/utf8.acceptRanges", laid_unicode_utf8_acceptRanges), ("unicode/utf8.first", laid_unicode_utf8_first)], narrowed := true }
def PlainKeepsUptoSaid : Prop := plainKeepsUptoRow.holds Tryz.pinned (OpenSpec.upto plainKeepsSpec)

end Rows
end Go.Proofs.YtonblppkidpmlaaGreatDoor
