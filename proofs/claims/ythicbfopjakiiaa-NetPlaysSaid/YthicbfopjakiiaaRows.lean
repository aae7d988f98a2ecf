/-
  No cell of these rows narrows 'for every input' (looked for: loops, veiled, ifaces, maps, wideKeys, modest, calm, conditions, laid).
  DERIVED. THE GIVEN ROWS OF THIS SEAT. 8 by the template 'for every input the law returns true; each argument reads behind the call as it read before'; 0 by the template 'total and deterministic' (their statements: YthicbfopjakiiaaTotals.lean).
  GIVEN WITH THE SEED: the statements are not yours to turn. If you find one false, say at which input.
  Laid BY PROGRAM, IN A SANDBOX (cutbox-rows.mjs): the forced cells as the released guide's own fill.sh prints them over the translation e4a1811e21b7c653… (all of the seat's roots in one cut). By AI agents, Wed Nov 11 2026. No macro, syntax, notation, axiom, sorry.
-/
import Derived.Test.YthicbfopjakiiaaChecked
import GoSem.Claim
import GoSem.ClaimJoined
import GoSem.ClaimMapViews
import Derived.JoinedTies
import Derived.KernelRfl
namespace Go.Proofs.Ythicbfopjakiiaa
/- THE CELL 'sum', in the pinned program and in every row, IS THE sha256 OF THE DUMP (.gsa) THAT YthicbfopjakiiaaProg.lean LOADS. Nothing in Lean hashes anything: it is a label: what it is worth is what the hold of that sum in a sandbox is worth. -/
noncomputable def Try.pinned : Pinned := { name := "ythicbfopjakiiaa", sum := "e4a1811e21b7c65384656254cecff833fb60f22efd6619648be0dc1be1c412f0", checked := Try.checked }
namespace Rows
def none {H : Type} : Left H := { results := [], args := [] }

/-- 'shelfmarklaw15.SessionFull': WHATEVER THE INPUT: true; the input reads as it did. -/
def sessionFullSpec : ChangeSpec := { name := "sessionFull", fn := fun _ => fun
  | [d] => { results := [.lit (.bool true)], args := [d] }
  | _ => none }
def sessionFullRow : OpenClaim := { program := "ythicbfopjakiiaa", sum := "e4a1811e21b7c65384656254cecff833fb60f22efd6619648be0dc1be1c412f0", func := "shelfmark/shelfmarklaw15.SessionFull", spec := "sessionFull", apart := false }
def SessionFullSaid : Prop := sessionFullRow.holds Try.pinned (OpenSpec.ofChange sessionFullSpec)

/-- ITS FALSE NEIGHBOUR: 'it returns false'. Refute it at one input. -/
def sessionFullWrong : ChangeSpec := { name := "sessionFull", fn := fun _ => fun
  | [d] => { results := [.lit (.bool false)], args := [d] }
  | _ => none }
def SessionFullWrongFalsely : Prop := sessionFullRow.holds Try.pinned (OpenSpec.ofChange sessionFullWrong)

/-- 'shelfmarklaw15.SessionLoads': WHATEVER THE INPUT: true; the input reads as it did. -/
def sessionLoadsSpec : ChangeSpec := { name := "sessionLoads", fn := fun _ => fun
  | [d] => { results := [.lit (.bool true)], args := [d] }
  | _ => none }
def sessionLoadsRow : OpenClaim := { program := "ythicbfopjakiiaa", sum := "e4a1811e21b7c65384656254cecff833fb60f22efd6619648be0dc1be1c412f0", func := "shelfmark/shelfmarklaw15.SessionLoads", spec := "sessionLoads", apart := false }
def SessionLoadsSaid : Prop := sessionLoadsRow.holds Try.pinned (OpenSpec.ofChange sessionLoadsSpec)

/-- ITS FALSE NEIGHBOUR: 'it returns false'. Refute it at one input. -/
def sessionLoadsWrong : ChangeSpec := { name := "sessionLoads", fn := fun _ => fun
  | [d] => { results := [.lit (.bool false)], args := [d] }
  | _ => none }
def SessionLoadsWrongFalsely : Prop := sessionLoadsRow.holds Try.pinned (OpenSpec.ofChange sessionLoadsWrong)

/-- 'shelfmarklaw15.SessionPlays': WHATEVER THE INPUT: true; the input reads as it did. -/
def sessionPlaysSpec : ChangeSpec := { name := "sessionPlays", fn := fun _ => fun
  | [d] => { results := [.lit (.bool true)], args := [d] }
  | _ => none }
def sessionPlaysRow : OpenClaim := { program := "ythicbfopjakiiaa", sum := "e4a1811e21b7c65384656254cecff833fb60f22efd6619648be0dc1be1c412f0", func := "shelfmark/shelfmarklaw15.SessionPlays", spec := "sessionPlays", recurses := true, apart := false }
def SessionPlaysSaid : Prop := sessionPlaysRow.holds Try.pinned (OpenSpec.ofChange sessionPlaysSpec)

/-- ITS FALSE NEIGHBOUR: 'it returns false'. Refute it at one input. -/
def sessionPlaysWrong : ChangeSpec := { name := "sessionPlays", fn := fun _ => fun
  | [d] => { results := [.lit (.bool false)], args := [d] }
  | _ => none }
def SessionPlaysWrongFalsely : Prop := sessionPlaysRow.holds Try.pinned (OpenSpec.ofChange sessionPlaysWrong)

/-- 'shelfmarklaw14.NetFull': WHATEVER THE INPUT: true; the input reads as it did. -/
def netFullSpec : ChangeSpec := { name := "netFull", fn := fun _ => fun
  | [d] => { results := [.lit (.bool true)], args := [d] }
  | _ => none }
def netFullRow : OpenClaim := { program := "ythicbfopjakiiaa", sum := "e4a1811e21b7c65384656254cecff833fb60f22efd6619648be0dc1be1c412f0", func := "shelfmark/shelfmarklaw14.NetFull", spec := "netFull", unfollowed := true, recurses := true, apart := false }
def NetFullSaid : Prop := netFullRow.holds Try.pinned (OpenSpec.ofChange netFullSpec)

/-- ITS FALSE NEIGHBOUR: 'it returns false'. Refute it at one input. -/
def netFullWrong : ChangeSpec := { name := "netFull", fn := fun _ => fun
  | [d] => { results := [.lit (.bool false)], args := [d] }
  | _ => none }
def NetFullWrongFalsely : Prop := netFullRow.holds Try.pinned (OpenSpec.ofChange netFullWrong)

/-- 'shelfmarklaw14.NetKeeps': WHATEVER THE INPUT: true; the input reads as it did. -/
def netKeepsSpec : ChangeSpec := { name := "netKeeps", fn := fun _ => fun
  | [d] => { results := [.lit (.bool true)], args := [d] }
  | _ => none }
def netKeepsRow : OpenClaim := { program := "ythicbfopjakiiaa", sum := "e4a1811e21b7c65384656254cecff833fb60f22efd6619648be0dc1be1c412f0", func := "shelfmark/shelfmarklaw14.NetKeeps", spec := "netKeeps", unfollowed := true, recurses := true, apart := false }
def NetKeepsSaid : Prop := netKeepsRow.holds Try.pinned (OpenSpec.ofChange netKeepsSpec)

/-- ITS FALSE NEIGHBOUR: 'it returns false'. Refute it at one input. -/
def netKeepsWrong : ChangeSpec := { name := "netKeeps", fn := fun _ => fun
  | [d] => { results := [.lit (.bool false)], args := [d] }
  | _ => none }
def NetKeepsWrongFalsely : Prop := netKeepsRow.holds Try.pinned (OpenSpec.ofChange netKeepsWrong)

/-- 'shelfmarklaw14.NetPlays': WHATEVER THE INPUT: true; the input reads as it did. -/
def netPlaysSpec : ChangeSpec := { name := "netPlays", fn := fun _ => fun
  | [d] => { results := [.lit (.bool true)], args := [d] }
  | _ => none }
def netPlaysRow : OpenClaim := { program := "ythicbfopjakiiaa", sum := "e4a1811e21b7c65384656254cecff833fb60f22efd6619648be0dc1be1c412f0", func := "shelfmark/shelfmarklaw14.NetPlays", spec := "netPlays", unfollowed := true, recurses := true, apart := false }
def NetPlaysSaid : Prop := netPlaysRow.holds Try.pinned (OpenSpec.ofChange netPlaysSpec)

/-- ITS FALSE NEIGHBOUR: 'it returns false'. Refute it at one input. -/
def netPlaysWrong : ChangeSpec := { name := "netPlays", fn := fun _ => fun
  | [d] => { results := [.lit (.bool false)], args := [d] }
  | _ => none }
def NetPlaysWrongFalsely : Prop := netPlaysRow.holds Try.pinned (OpenSpec.ofChange netPlaysWrong)

/-- 'shelfmarklaw14.NetCounts': WHATEVER THE INPUT: true; the input reads as it did. -/
def netCountsSpec : ChangeSpec := { name := "netCounts", fn := fun _ => fun
  | [d] => { results := [.lit (.bool true)], args := [d] }
  | _ => none }
def netCountsRow : OpenClaim := { program := "ythicbfopjakiiaa", sum := "e4a1811e21b7c65384656254cecff833fb60f22efd6619648be0dc1be1c412f0", func := "shelfmark/shelfmarklaw14.NetCounts", spec := "netCounts", unfollowed := true, recurses := true, apart := false }
def NetCountsSaid : Prop := netCountsRow.holds Try.pinned (OpenSpec.ofChange netCountsSpec)

/-- ITS FALSE NEIGHBOUR: 'it returns false'. Refute it at one input. -/
def netCountsWrong : ChangeSpec := { name := "netCounts", fn := fun _ => fun
  | [d] => { results := [.lit (.bool false)], args := [d] }
  | _ => none }
def NetCountsWrongFalsely : Prop := netCountsRow.holds Try.pinned (OpenSpec.ofChange netCountsWrong)

/-- 'shelfmarklaw15.SessionRoads': WHATEVER THE INPUT: true; the input reads as it did. -/
def sessionRoadsSpec : ChangeSpec := { name := "sessionRoads", fn := fun _ => fun
  | [d] => { results := [.lit (.bool true)], args := [d] }
  | _ => none }
def sessionRoadsRow : OpenClaim := { program := "ythicbfopjakiiaa", sum := "e4a1811e21b7c65384656254cecff833fb60f22efd6619648be0dc1be1c412f0", func := "shelfmark/shelfmarklaw15.SessionRoads", spec := "sessionRoads", unfollowed := true, recurses := true, apart := false }
def SessionRoadsSaid : Prop := sessionRoadsRow.holds Try.pinned (OpenSpec.ofChange sessionRoadsSpec)

/-- ITS FALSE NEIGHBOUR: 'it returns false'. Refute it at one input. -/
def sessionRoadsWrong : ChangeSpec := { name := "sessionRoads", fn := fun _ => fun
  | [d] => { results := [.lit (.bool false)], args := [d] }
  | _ => none }
def SessionRoadsWrongFalsely : Prop := sessionRoadsRow.holds Try.pinned (OpenSpec.ofChange sessionRoadsWrong)

/- THE SECOND FORM. 'bulk': how many values and letters a reading holds, each counted each time it is reached (what is shared counts as often as it is met; a slice's spare places count too). A statement '..UptoSaid' is the law's where the arguments, and the package variables that the reading takes, are together of bulk at most 1048576: NARROWER than '..Said'. Prove '..Said' where nothing that the law and all that it calls make is longer than what came in: it says more and counts as full. Else prove '..UptoSaid'. A law counts once. -/
mutual
def uptoBulk {H : Type} : DataW H → Nat
  | .lit (.string bytes) => bytes.length + 1
  | .lit _ => 1
  | .nil => 1
  | .ptr d => uptoBulk d + 1
  | .slice elems spare => uptoBulkAll elems + uptoBulkAll spare + 1
  | .agg parts => uptoBulkAll parts + 1
  | .iface _ d => uptoBulk d + 1
  | .map entries => uptoBulkEntries entries + 1
  | .held _ => 1
def uptoBulkAll {H : Type} : List (DataW H) → Nat
  | [] => 0
  | d :: r => uptoBulk d + uptoBulkAll r
def uptoBulkEntries {H : Type} : List (Lit × DataW H) → Nat
  | [] => 0
  | x :: r => uptoBulkEntry x + uptoBulkEntries r
def uptoBulkEntry {H : Type} : Lit × DataW H → Nat
  | (.string bytes, d) => bytes.length + uptoBulk d + 1
  | (_, d) => uptoBulk d + 1
 end
def uptoSmall : (H : Type) → List (DataW H) → Bool := fun _ ds => decide (uptoBulkAll ds ≤ 1048576)
def OpenSpec.upto (s : _root_.Go.ChangeSpec) : _root_.Go.OpenSpec := { _root_.Go.OpenSpec.ofChange s with cond := some uptoSmall }

/-- 'shelfmarklaw15.SessionFull', WHERE WHAT IT READS IS OF BULK AT MOST 1048576: true; the input reads as it did. -/
def sessionFullUptoRow : OpenClaim := { program := "ythicbfopjakiiaa", sum := "e4a1811e21b7c65384656254cecff833fb60f22efd6619648be0dc1be1c412f0", func := "shelfmark/shelfmarklaw15.SessionFull", spec := "sessionFull", apart := false, narrowed := true }
def SessionFullUptoSaid : Prop := sessionFullUptoRow.holds Try.pinned (OpenSpec.upto sessionFullSpec)

/-- 'shelfmarklaw15.SessionLoads', WHERE WHAT IT READS IS OF BULK AT MOST 1048576: true; the input reads as it did. -/
def sessionLoadsUptoRow : OpenClaim := { program := "ythicbfopjakiiaa", sum := "e4a1811e21b7c65384656254cecff833fb60f22efd6619648be0dc1be1c412f0", func := "shelfmark/shelfmarklaw15.SessionLoads", spec := "sessionLoads", apart := false, narrowed := true }
def SessionLoadsUptoSaid : Prop := sessionLoadsUptoRow.holds Try.pinned (OpenSpec.upto sessionLoadsSpec)

/-- 'shelfmarklaw15.SessionPlays', WHERE WHAT IT READS IS OF BULK AT MOST 1048576: true; the input reads as it did. -/
def sessionPlaysUptoRow : OpenClaim := { program := "ythicbfopjakiiaa", sum := "e4a1811e21b7c65384656254cecff833fb60f22efd6619648be0dc1be1c412f0", func := "shelfmark/shelfmarklaw15.SessionPlays", spec := "sessionPlays", recurses := true, apart := false, narrowed := true }
def SessionPlaysUptoSaid : Prop := sessionPlaysUptoRow.holds Try.pinned (OpenSpec.upto sessionPlaysSpec)

/-- 'shelfmarklaw14.NetFull', WHERE WHAT IT READS IS OF BULK AT MOST 1048576: true; the input reads as it did. -/
def netFullUptoRow : OpenClaim := { program := "ythicbfopjakiiaa", sum := "e4a1811e21b7c65384656254cecff833fb60f22efd6619648be0dc1be1c412f0", func := "shelfmark/shelfmarklaw14.NetFull", spec := "netFull", unfollowed := true, recurses := true, apart := false, narrowed := true }
def NetFullUptoSaid : Prop := netFullUptoRow.holds Try.pinned (OpenSpec.upto netFullSpec)

/-- 'shelfmarklaw14.NetKeeps', WHERE WHAT IT READS IS OF BULK AT MOST 1048576: true; the input reads as it did. -/
def netKeepsUptoRow : OpenClaim := { program := "ythicbfopjakiiaa", sum := "e4a1811e21b7c65384656254cecff833fb60f22efd6619648be0dc1be1c412f0", func := "shelfmark/shelfmarklaw14.NetKeeps", spec := "netKeeps", unfollowed := true, recurses := true, apart := false, narrowed := true }
def NetKeepsUptoSaid : Prop := netKeepsUptoRow.holds Try.pinned (OpenSpec.upto netKeepsSpec)

/-- 'shelfmarklaw14.NetPlays', WHERE WHAT IT READS IS OF BULK AT MOST 1048576: true; the input reads as it did. -/
def netPlaysUptoRow : OpenClaim := { program := "ythicbfopjakiiaa", sum := "e4a1811e21b7c65384656254cecff833fb60f22efd6619648be0dc1be1c412f0", func := "shelfmark/shelfmarklaw14.NetPlays", spec := "netPlays", unfollowed := true, recurses := true, apart := false, narrowed := true }
def NetPlaysUptoSaid : Prop := netPlaysUptoRow.holds Try.pinned (OpenSpec.upto netPlaysSpec)

/-- 'shelfmarklaw14.NetCounts', WHERE WHAT IT READS IS OF BULK AT MOST 1048576: true; the input reads as it did. -/
def netCountsUptoRow : OpenClaim := { program := "ythicbfopjakiiaa", sum := "e4a1811e21b7c65384656254cecff833fb60f22efd6619648be0dc1be1c412f0", func := "shelfmark/shelfmarklaw14.NetCounts", spec := "netCounts", unfollowed := true, recurses := true, apart := false, narrowed := true }
def NetCountsUptoSaid : Prop := netCountsUptoRow.holds Try.pinned (OpenSpec.upto netCountsSpec)

/-- 'shelfmarklaw15.SessionRoads', WHERE WHAT IT READS IS OF BULK AT MOST 1048576: true; the input reads as it did. -/
def sessionRoadsUptoRow : OpenClaim := { program := "ythicbfopjakiiaa", sum := "e4a1811e21b7c65384656254cecff833fb60f22efd6619648be0dc1be1c412f0", func := "shelfmark/shelfmarklaw15.SessionRoads", spec := "sessionRoads", unfollowed := true, recurses := true, apart := false, narrowed := true }
def SessionRoadsUptoSaid : Prop := sessionRoadsUptoRow.holds Try.pinned (OpenSpec.upto sessionRoadsSpec)

end Rows
end Go.Proofs.Ythicbfopjakiiaa
