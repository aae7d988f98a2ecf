/-
  No cell of these rows narrows 'for every input' (looked for: loops, veiled, ifaces, maps, wideKeys, modest, calm, conditions, laid).
  DERIVED. THE GIVEN ROWS OF THIS SEAT. 7 by the template 'for every input the law returns true; each argument reads behind the call as it read before'; 0 by the template 'total and deterministic' (their statements: YtcihbjempijhpaaTotals.lean).
  GIVEN WITH THE SEED: the statements are not yours to turn. If you find one false, say at which input.
  Laid BY PROGRAM, IN A SANDBOX (cutbox-rows.mjs): the forced cells as the released guide's own fill.sh prints them over the translation c5f63fff33d1a23c… (all of the seat's roots in one cut). By AI agents, Wed Nov 11 2026. No macro, syntax, notation, axiom, sorry.
-/
import Derived.Test.YtcihbjempijhpaaChecked
import GoSem.Claim
import GoSem.ClaimJoined
import GoSem.ClaimMapViews
import Derived.JoinedTies
import Derived.KernelRfl
namespace Go.Proofs.Ytcihbjempijhpaa
/- THE CELL 'sum', in the pinned program and in every row, IS THE sha256 OF THE DUMP (.gsa) THAT YtcihbjempijhpaaProg.lean LOADS. Nothing in Lean hashes anything: it is a label: what it is worth is what the hold of that sum in a sandbox is worth. -/
noncomputable def Try.pinned : Pinned := { name := "ytcihbjempijhpaa", sum := "c5f63fff33d1a23cac16c85bb01cb675390f1073813ad6a620ea26252b0ce06e", checked := Try.checked }
namespace Rows
def none {H : Type} : Left H := { results := [], args := [] }

/-- 'shelfmarklaw11.SpanMeets': WHATEVER THE INPUT: true; the input reads as it did. -/
def spanMeetsSpec : ChangeSpec := { name := "spanMeets", fn := fun _ => fun
  | [d1, d2, d3] => { results := [.lit (.bool true)], args := [d1, d2, d3] }
  | _ => none }
def spanMeetsRow : OpenClaim := { program := "ytcihbjempijhpaa", sum := "c5f63fff33d1a23cac16c85bb01cb675390f1073813ad6a620ea26252b0ce06e", func := "shelfmark/shelfmarklaw11.SpanMeets", spec := "spanMeets", unfollowed := true, recurses := true, apart := false }
def SpanMeetsSaid : Prop := spanMeetsRow.holds Try.pinned (OpenSpec.ofChange spanMeetsSpec)

/-- ITS FALSE NEIGHBOUR: 'it returns false'. Refute it at one input. -/
def spanMeetsWrong : ChangeSpec := { name := "spanMeets", fn := fun _ => fun
  | [d1, d2, d3] => { results := [.lit (.bool false)], args := [d1, d2, d3] }
  | _ => none }
def SpanMeetsWrongFalsely : Prop := spanMeetsRow.holds Try.pinned (OpenSpec.ofChange spanMeetsWrong)

/-- 'shelfmarklaw11.SpanIn': WHATEVER THE INPUT: true; the input reads as it did. -/
def spanInSpec : ChangeSpec := { name := "spanIn", fn := fun _ => fun
  | [d1, d2, d3] => { results := [.lit (.bool true)], args := [d1, d2, d3] }
  | _ => none }
def spanInRow : OpenClaim := { program := "ytcihbjempijhpaa", sum := "c5f63fff33d1a23cac16c85bb01cb675390f1073813ad6a620ea26252b0ce06e", func := "shelfmark/shelfmarklaw11.SpanIn", spec := "spanIn", unfollowed := true, recurses := true, apart := false }
def SpanInSaid : Prop := spanInRow.holds Try.pinned (OpenSpec.ofChange spanInSpec)

/-- ITS FALSE NEIGHBOUR: 'it returns false'. Refute it at one input. -/
def spanInWrong : ChangeSpec := { name := "spanIn", fn := fun _ => fun
  | [d1, d2, d3] => { results := [.lit (.bool false)], args := [d1, d2, d3] }
  | _ => none }
def SpanInWrongFalsely : Prop := spanInRow.holds Try.pinned (OpenSpec.ofChange spanInWrong)

/-- 'shelfmarklaw11.SpanLeast': WHATEVER THE INPUT: true; the input reads as it did. -/
def spanLeastSpec : ChangeSpec := { name := "spanLeast", fn := fun _ => fun
  | [d1, d2] => { results := [.lit (.bool true)], args := [d1, d2] }
  | _ => none }
def spanLeastRow : OpenClaim := { program := "ytcihbjempijhpaa", sum := "c5f63fff33d1a23cac16c85bb01cb675390f1073813ad6a620ea26252b0ce06e", func := "shelfmark/shelfmarklaw11.SpanLeast", spec := "spanLeast", unfollowed := true, recurses := true, apart := false }
def SpanLeastSaid : Prop := spanLeastRow.holds Try.pinned (OpenSpec.ofChange spanLeastSpec)

/-- ITS FALSE NEIGHBOUR: 'it returns false'. Refute it at one input. -/
def spanLeastWrong : ChangeSpec := { name := "spanLeast", fn := fun _ => fun
  | [d1, d2] => { results := [.lit (.bool false)], args := [d1, d2] }
  | _ => none }
def SpanLeastWrongFalsely : Prop := spanLeastRow.holds Try.pinned (OpenSpec.ofChange spanLeastWrong)

/-- 'shelfmarklaw11.SpanGrows': WHATEVER THE INPUT: true; the input reads as it did. -/
def spanGrowsSpec : ChangeSpec := { name := "spanGrows", fn := fun _ => fun
  | [d1, d2] => { results := [.lit (.bool true)], args := [d1, d2] }
  | _ => none }
def spanGrowsRow : OpenClaim := { program := "ytcihbjempijhpaa", sum := "c5f63fff33d1a23cac16c85bb01cb675390f1073813ad6a620ea26252b0ce06e", func := "shelfmark/shelfmarklaw11.SpanGrows", spec := "spanGrows", unfollowed := true, recurses := true, apart := false }
def SpanGrowsSaid : Prop := spanGrowsRow.holds Try.pinned (OpenSpec.ofChange spanGrowsSpec)

/-- ITS FALSE NEIGHBOUR: 'it returns false'. Refute it at one input. -/
def spanGrowsWrong : ChangeSpec := { name := "spanGrows", fn := fun _ => fun
  | [d1, d2] => { results := [.lit (.bool false)], args := [d1, d2] }
  | _ => none }
def SpanGrowsWrongFalsely : Prop := spanGrowsRow.holds Try.pinned (OpenSpec.ofChange spanGrowsWrong)

/-- 'shelfmarklaw16.LockHolds': WHATEVER THE INPUT: true; the input reads as it did. -/
def lockHoldsSpec : ChangeSpec := { name := "lockHolds", fn := fun _ => fun
  | [d1, d2, d3, d4, d5] => { results := [.lit (.bool true)], args := [d1, d2, d3, d4, d5] }
  | _ => none }
def lockHoldsRow : OpenClaim := { program := "ytcihbjempijhpaa", sum := "c5f63fff33d1a23cac16c85bb01cb675390f1073813ad6a620ea26252b0ce06e", func := "shelfmark/shelfmarklaw16.LockHolds", spec := "lockHolds", unfollowed := true, recurses := true, apart := false }
def LockHoldsSaid : Prop := lockHoldsRow.holds Try.pinned (OpenSpec.ofChange lockHoldsSpec)

/-- ITS FALSE NEIGHBOUR: 'it returns false'. Refute it at one input. -/
def lockHoldsWrong : ChangeSpec := { name := "lockHolds", fn := fun _ => fun
  | [d1, d2, d3, d4, d5] => { results := [.lit (.bool false)], args := [d1, d2, d3, d4, d5] }
  | _ => none }
def LockHoldsWrongFalsely : Prop := lockHoldsRow.holds Try.pinned (OpenSpec.ofChange lockHoldsWrong)

/-- 'shelfmarklaw16.LockLoses': WHATEVER THE INPUT: true; the input reads as it did. -/
def lockLosesSpec : ChangeSpec := { name := "lockLoses", fn := fun _ => fun
  | [d1, d2, d3, d4] => { results := [.lit (.bool true)], args := [d1, d2, d3, d4] }
  | _ => none }
def lockLosesRow : OpenClaim := { program := "ytcihbjempijhpaa", sum := "c5f63fff33d1a23cac16c85bb01cb675390f1073813ad6a620ea26252b0ce06e", func := "shelfmark/shelfmarklaw16.LockLoses", spec := "lockLoses", unfollowed := true, recurses := true, apart := false }
def LockLosesSaid : Prop := lockLosesRow.holds Try.pinned (OpenSpec.ofChange lockLosesSpec)

/-- ITS FALSE NEIGHBOUR: 'it returns false'. Refute it at one input. -/
def lockLosesWrong : ChangeSpec := { name := "lockLoses", fn := fun _ => fun
  | [d1, d2, d3, d4] => { results := [.lit (.bool false)], args := [d1, d2, d3, d4] }
  | _ => none }
def LockLosesWrongFalsely : Prop := lockLosesRow.holds Try.pinned (OpenSpec.ofChange lockLosesWrong)

/-- 'shelfmarklaw16.LockPlays': WHATEVER THE INPUT: true; the input reads as it did. -/
def lockPlaysSpec : ChangeSpec := { name := "lockPlays", fn := fun _ => fun
  | [d1, d2, d3, d4] => { results := [.lit (.bool true)], args := [d1, d2, d3, d4] }
  | _ => none }
def lockPlaysRow : OpenClaim := { program := "ytcihbjempijhpaa", sum := "c5f63fff33d1a23cac16c85bb01cb675390f1073813ad6a620ea26252b0ce06e", func := "shelfmark/shelfmarklaw16.LockPlays", spec := "lockPlays", unfollowed := true, recurses := true, apart := false }
def LockPlaysSaid : Prop := lockPlaysRow.holds Try.pinned (OpenSpec.ofChange lockPlaysSpec)

/-- ITS FALSE NEIGHBOUR: 'it returns false'. Refute it at one input. -/
def lockPlaysWrong : ChangeSpec := { name := "lockPlays", fn := fun _ => fun
  | [d1, d2, d3, d4] => { results := [.lit (.bool false)], args := [d1, d2, d3, d4] }
  | _ => none }
def LockPlaysWrongFalsely : Prop := lockPlaysRow.holds Try.pinned (OpenSpec.ofChange lockPlaysWrong)

/- THE SECOND FORM. 'bulk': how many values and letters a reading holds, each counted each time it is reached (what is shared counts as often as it is met; a slice's spare places count too). A statement '..UptoSaid' is the law's where the arguments, and the package variables that the reading takes, are together of bulk at most 1048576: NARROWER than '..Said'. Prove '..Said' where nothing that the law and all that it calls make is longer than what came in: it says more and counts as full. Else prove '..UptoSaid'. A law counts once. -/
mutual
def uptoBulk {H : Type} : DataW H → Nat
  | .lit (.string bytes) => bytes.length + 1
  | .lit _ => 1
  | .nil => 1
  | .ptr d => uptoBulk d + 1
  | .slice elems spare => uptoBulkAll elems + uptoBulkAll spare + 1
  | .agg parts => uptoBulkAll parts + 1
  | .iface _ d => uptoBulk d + 1
  | .map entries => uptoBulkEntries entries + 1
  | .held _ => 1
def uptoBulkAll {H : Type} : List (DataW H) → Nat
  | [] => 0
  | d :: r => uptoBulk d + uptoBulkAll r
def uptoBulkEntries {H : Type} : List (Lit × DataW H) → Nat
  | [] => 0
  | x :: r => uptoBulkEntry x + uptoBulkEntries r
def uptoBulkEntry {H : Type} : Lit × DataW H → Nat
  | (.string bytes, d) => bytes.length + uptoBulk d + 1
  | (_, d) => uptoBulk d + 1
 end
def uptoSmall : (H : Type) → List (DataW H) → Bool := fun _ ds => decide (uptoBulkAll ds ≤ 1048576)
def OpenSpec.upto (s : _root_.Go.ChangeSpec) : _root_.Go.OpenSpec := { _root_.Go.OpenSpec.ofChange s with cond := some uptoSmall }

/-- 'shelfmarklaw11.SpanMeets', WHERE WHAT IT READS IS OF BULK AT MOST 1048576: true; the input reads as it did. -/
def spanMeetsUptoRow : OpenClaim := { program := "ytcihbjempijhpaa", sum := "c5f63fff33d1a23cac16c85bb01cb675390f1073813ad6a620ea26252b0ce06e", func := "shelfmark/shelfmarklaw11.SpanMeets", spec := "spanMeets", unfollowed := true, recurses := true, apart := false, narrowed := true }
def SpanMeetsUptoSaid : Prop := spanMeetsUptoRow.holds Try.pinned (OpenSpec.upto spanMeetsSpec)

/-- 'shelfmarklaw11.SpanIn', WHERE WHAT IT READS IS OF BULK AT MOST 1048576: true; the input reads as it did. -/
def spanInUptoRow : OpenClaim := { program := "ytcihbjempijhpaa", sum := "c5f63fff33d1a23cac16c85bb01cb675390f1073813ad6a620ea26252b0ce06e", func := "shelfmark/shelfmarklaw11.SpanIn", spec := "spanIn", unfollowed := true, recurses := true, apart := false, narrowed := true }
def SpanInUptoSaid : Prop := spanInUptoRow.holds Try.pinned (OpenSpec.upto spanInSpec)

/-- 'shelfmarklaw11.SpanLeast', WHERE WHAT IT READS IS OF BULK AT MOST 1048576: true; the input reads as it did. -/
def spanLeastUptoRow : OpenClaim := { program := "ytcihbjempijhpaa", sum := "c5f63fff33d1a23cac16c85bb01cb675390f1073813ad6a620ea26252b0ce06e", func := "shelfmark/shelfmarklaw11.SpanLeast", spec := "spanLeast", unfollowed := true, recurses := true, apart := false, narrowed := true }
def SpanLeastUptoSaid : Prop := spanLeastUptoRow.holds Try.pinned (OpenSpec.upto spanLeastSpec)

/-- 'shelfmarklaw11.SpanGrows', WHERE WHAT IT READS IS OF BULK AT MOST 1048576: true; the input reads as it did. -/
def spanGrowsUptoRow : OpenClaim := { program := "ytcihbjempijhpaa", sum := "c5f63fff33d1a23cac16c85bb01cb675390f1073813ad6a620ea26252b0ce06e", func := "shelfmark/shelfmarklaw11.SpanGrows", spec := "spanGrows", unfollowed := true, recurses := true, apart := false, narrowed := true }
def SpanGrowsUptoSaid : Prop := spanGrowsUptoRow.holds Try.pinned (OpenSpec.upto spanGrowsSpec)

/-- 'shelfmarklaw16.LockHolds', WHERE WHAT IT READS IS OF BULK AT MOST 1048576: true; the input reads as it did. -/
def lockHoldsUptoRow : OpenClaim := { program := "ytcihbjempijhpaa", sum := "c5f63fff33d1a23cac16c85bb01cb675390f1073813ad6a620ea26252b0ce06e", func := "shelfmark/shelfmarklaw16.LockHolds", spec := "lockHolds", unfollowed := true, recurses := true, apart := false, narrowed := true }
def LockHoldsUptoSaid : Prop := lockHoldsUptoRow.holds Try.pinned (OpenSpec.upto lockHoldsSpec)

/-- 'shelfmarklaw16.LockLoses', WHERE WHAT IT READS IS OF BULK AT MOST 1048576: true; the input reads as it did. -/
def lockLosesUptoRow : OpenClaim := { program := "ytcihbjempijhpaa", sum := "c5f63fff33d1a23cac16c85bb01cb675390f1073813ad6a620ea26252b0ce06e", func := "shelfmark/shelfmarklaw16.LockLoses", spec := "lockLoses", unfollowed := true, recurses := true, apart := false, narrowed := true }
def LockLosesUptoSaid : Prop := lockLosesUptoRow.holds Try.pinned (OpenSpec.upto lockLosesSpec)

/-- 'shelfmarklaw16.LockPlays', WHERE WHAT IT READS IS OF BULK AT MOST 1048576: true; the input reads as it did. -/
def lockPlaysUptoRow : OpenClaim := { program := "ytcihbjempijhpaa", sum := "c5f63fff33d1a23cac16c85bb01cb675390f1073813ad6a620ea26252b0ce06e", func := "shelfmark/shelfmarklaw16.LockPlays", spec := "lockPlays", unfollowed := true, recurses := true, apart := false, narrowed := true }
def LockPlaysUptoSaid : Prop := lockPlaysUptoRow.holds Try.pinned (OpenSpec.upto lockPlaysSpec)

end Rows
end Go.Proofs.Ytcihbjempijhpaa
