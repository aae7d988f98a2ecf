/-
  No cell of these rows narrows 'for every input' (looked for: loops, veiled, ifaces, maps, wideKeys, modest, calm, conditions, laid).
  DERIVED. THE GIVEN ROWS OF THIS SEAT. 4 by the template 'for every input the law returns true; each argument reads behind the call as it read before'; 0 by the template 'total and deterministic' (their statements: YtcfncjejpjjhdaaTotals.lean).
  GIVEN WITH THE SEED: the statements are not yours to turn. If you find one false, say at which input.
  Laid BY PROGRAM, IN A SANDBOX (cutbox-rows.mjs): the forced cells as the released guide's own fill.sh prints them over the translation 8390fe1d859eb01e… (all of the seat's roots in one cut). By AI agents, Wed Nov 11 2026. No macro, syntax, notation, axiom, sorry.
-/
import Derived.Test.YtcfncjejpjjhdaaChecked
import GoSem.Claim
import GoSem.ClaimJoined
import GoSem.ClaimMapViews
import Derived.JoinedTies
import Derived.KernelRfl
namespace Go.Proofs.Ytcfncjejpjjhdaa
/- THE CELL 'sum', in the pinned program and in every row, IS THE sha256 OF THE DUMP (.gsa) THAT YtcfncjejpjjhdaaProg.lean LOADS. Nothing in Lean hashes anything: it is a label: what it is worth is what the hold of that sum in a sandbox is worth. -/
noncomputable def Try.pinned : Pinned := { name := "ytcfncjejpjjhdaa", sum := "8390fe1d859eb01ed74a1bf08cfdbfe95a354786a7744c11fc31847500793068", checked := Try.checked }
namespace Rows
def none {H : Type} : Left H := { results := [], args := [] }

/-- 'shelfmarklaw22.BoardReady': WHATEVER THE INPUT: true; the input reads as it did. -/
def boardReadySpec : ChangeSpec := { name := "boardReady", fn := fun _ => fun
  | [d1, d2] => { results := [.lit (.bool true)], args := [d1, d2] }
  | _ => none }
def boardReadyRow : OpenClaim := { program := "ytcfncjejpjjhdaa", sum := "8390fe1d859eb01ed74a1bf08cfdbfe95a354786a7744c11fc31847500793068", func := "shelfmark/shelfmarklaw22.BoardReady", spec := "boardReady", unfollowed := true, recurses := true, apart := false }
def BoardReadySaid : Prop := boardReadyRow.holds Try.pinned (OpenSpec.ofChange boardReadySpec)

/-- ITS FALSE NEIGHBOUR: 'it returns false'. Refute it at one input. -/
def boardReadyWrong : ChangeSpec := { name := "boardReady", fn := fun _ => fun
  | [d1, d2] => { results := [.lit (.bool false)], args := [d1, d2] }
  | _ => none }
def BoardReadyWrongFalsely : Prop := boardReadyRow.holds Try.pinned (OpenSpec.ofChange boardReadyWrong)

/-- 'shelfmarklaw22.BoardKeeps': WHATEVER THE INPUT: true; the input reads as it did. -/
def boardKeepsSpec : ChangeSpec := { name := "boardKeeps", fn := fun _ => fun
  | [d1, d2] => { results := [.lit (.bool true)], args := [d1, d2] }
  | _ => none }
def boardKeepsRow : OpenClaim := { program := "ytcfncjejpjjhdaa", sum := "8390fe1d859eb01ed74a1bf08cfdbfe95a354786a7744c11fc31847500793068", func := "shelfmark/shelfmarklaw22.BoardKeeps", spec := "boardKeeps", unfollowed := true, recurses := true, apart := false }
def BoardKeepsSaid : Prop := boardKeepsRow.holds Try.pinned (OpenSpec.ofChange boardKeepsSpec)

/-- ITS FALSE NEIGHBOUR: 'it returns false'. Refute it at one input. -/
def boardKeepsWrong : ChangeSpec := { name := "boardKeeps", fn := fun _ => fun
  | [d1, d2] => { results := [.lit (.bool false)], args := [d1, d2] }
  | _ => none }
def BoardKeepsWrongFalsely : Prop := boardKeepsRow.holds Try.pinned (OpenSpec.ofChange boardKeepsWrong)

/-- 'shelfmarklaw22.BoardPlays': WHATEVER THE INPUT: true; the input reads as it did. -/
def boardPlaysSpec : ChangeSpec := { name := "boardPlays", fn := fun _ => fun
  | [d] => { results := [.lit (.bool true)], args := [d] }
  | _ => none }
def boardPlaysRow : OpenClaim := { program := "ytcfncjejpjjhdaa", sum := "8390fe1d859eb01ed74a1bf08cfdbfe95a354786a7744c11fc31847500793068", func := "shelfmark/shelfmarklaw22.BoardPlays", spec := "boardPlays", unfollowed := true, recurses := true, apart := false }
def BoardPlaysSaid : Prop := boardPlaysRow.holds Try.pinned (OpenSpec.ofChange boardPlaysSpec)

/-- ITS FALSE NEIGHBOUR: 'it returns false'. Refute it at one input. -/
def boardPlaysWrong : ChangeSpec := { name := "boardPlays", fn := fun _ => fun
  | [d] => { results := [.lit (.bool false)], args := [d] }
  | _ => none }
def BoardPlaysWrongFalsely : Prop := boardPlaysRow.holds Try.pinned (OpenSpec.ofChange boardPlaysWrong)

/-- 'shelfmarklaw22.BoardLoads': WHATEVER THE INPUT: true; the input reads as it did. -/
def boardLoadsSpec : ChangeSpec := { name := "boardLoads", fn := fun _ => fun
  | [d1, d2, d3] => { results := [.lit (.bool true)], args := [d1, d2, d3] }
  | _ => none }
def boardLoadsRow : OpenClaim := { program := "ytcfncjejpjjhdaa", sum := "8390fe1d859eb01ed74a1bf08cfdbfe95a354786a7744c11fc31847500793068", func := "shelfmark/shelfmarklaw22.BoardLoads", spec := "boardLoads", unfollowed := true, recurses := true, apart := false }
def BoardLoadsSaid : Prop := boardLoadsRow.holds Try.pinned (OpenSpec.ofChange boardLoadsSpec)

/-- ITS FALSE NEIGHBOUR: 'it returns false'. Refute it at one input. -/
def boardLoadsWrong : ChangeSpec := { name := "boardLoads", fn := fun _ => fun
  | [d1, d2, d3] => { results := [.lit (.bool false)], args := [d1, d2, d3] }
  | _ => none }
def BoardLoadsWrongFalsely : Prop := boardLoadsRow.holds Try.pinned (OpenSpec.ofChange boardLoadsWrong)

/- THE SECOND FORM. 'bulk': how many values and letters a reading holds, each counted each time it is reached (what is shared counts as often as it is met; a slice's spare places count too). A statement '..UptoSaid' is the law's where the arguments, and the package variables that the reading takes, are together of bulk at most 1048576: NARROWER than '..Said'. Prove '..Said' where nothing that the law and all that it calls make is longer than what came in: it says more and counts as full. Else prove '..UptoSaid'. A law counts once. -/
mutual
def uptoBulk {H : Type} : DataW H → Nat
  | .lit (.string bytes) => bytes.length + 1
  | .lit _ => 1
  | .nil => 1
  | .ptr d => uptoBulk d + 1
  | .slice elems spare => uptoBulkAll elems + uptoBulkAll spare + 1
  | .agg parts => uptoBulkAll parts + 1
  | .iface _ d => uptoBulk d + 1
  | .map entries => uptoBulkEntries entries + 1
  | .held _ => 1
def uptoBulkAll {H : Type} : List (DataW H) → Nat
  | [] => 0
  | d :: r => uptoBulk d + uptoBulkAll r
def uptoBulkEntries {H : Type} : List (Lit × DataW H) → Nat
  | [] => 0
  | x :: r => uptoBulkEntry x + uptoBulkEntries r
def uptoBulkEntry {H : Type} : Lit × DataW H → Nat
  | (.string bytes, d) => bytes.length + uptoBulk d + 1
  | (_, d) => uptoBulk d + 1
 end
def uptoSmall : (H : Type) → List (DataW H) → Bool := fun _ ds => decide (uptoBulkAll ds ≤ 1048576)
def OpenSpec.upto (s : _root_.Go.ChangeSpec) : _root_.Go.OpenSpec := { _root_.Go.OpenSpec.ofChange s with cond := some uptoSmall }

/-- 'shelfmarklaw22.BoardReady', WHERE WHAT IT READS IS OF BULK AT MOST 1048576: true; the input reads as it did. -/
def boardReadyUptoRow : OpenClaim := { program := "ytcfncjejpjjhdaa", sum := "8390fe1d859eb01ed74a1bf08cfdbfe95a354786a7744c11fc31847500793068", func := "shelfmark/shelfmarklaw22.BoardReady", spec := "boardReady", unfollowed := true, recurses := true, apart := false, narrowed := true }
def BoardReadyUptoSaid : Prop := boardReadyUptoRow.holds Try.pinned (OpenSpec.upto boardReadySpec)

/-- 'shelfmarklaw22.BoardKeeps', WHERE WHAT IT READS IS OF BULK AT MOST 1048576: true; the input reads as it did. -/
def boardKeepsUptoRow : OpenClaim := { program := "ytcfncjejpjjhdaa", sum := "8390fe1d859eb01ed74a1bf08cfdbfe95a354786a7744c11fc31847500793068", func := "shelfmark/shelfmarklaw22.BoardKeeps", spec := "boardKeeps", unfollowed := true, recurses := true, apart := false, narrowed := true }
def BoardKeepsUptoSaid : Prop := boardKeepsUptoRow.holds Try.pinned (OpenSpec.upto boardKeepsSpec)

/-- 'shelfmarklaw22.BoardPlays', WHERE WHAT IT READS IS OF BULK AT MOST 1048576: true; the input reads as it did. -/
def boardPlaysUptoRow : OpenClaim := { program := "ytcfncjejpjjhdaa", sum := "8390fe1d859eb01ed74a1bf08cfdbfe95a354786a7744c11fc31847500793068", func := "shelfmark/shelfmarklaw22.BoardPlays", spec := "boardPlays", unfollowed := true, recurses := true, apart := false, narrowed := true }
def BoardPlaysUptoSaid : Prop := boardPlaysUptoRow.holds Try.pinned (OpenSpec.upto boardPlaysSpec)

/-- 'shelfmarklaw22.BoardLoads', WHERE WHAT IT READS IS OF BULK AT MOST 1048576: true; the input reads as it did. -/
def boardLoadsUptoRow : OpenClaim := { program := "ytcfncjejpjjhdaa", sum := "8390fe1d859eb01ed74a1bf08cfdbfe95a354786a7744c11fc31847500793068", func := "shelfmark/shelfmarklaw22.BoardLoads", spec := "boardLoads", unfollowed := true, recurses := true, apart := false, narrowed := true }
def BoardLoadsUptoSaid : Prop := boardLoadsUptoRow.holds Try.pinned (OpenSpec.upto boardLoadsSpec)

end Rows
end Go.Proofs.Ytcfncjejpjjhdaa
