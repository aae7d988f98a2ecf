/-
  No cell of these rows narrows 'for every input' (looked for: loops, veiled, ifaces, maps, wideKeys, modest, calm, conditions, laid).
  DERIVED. THE GIVEN ROWS OF THIS SEAT. 5 by the template 'for every input the law returns true; each argument reads behind the call as it read before'; 0 by the template 'total and deterministic' (their statements: YtmnaggdhkggjhaaTotals.lean).
  GIVEN WITH THE SEED: the statements are not yours to turn. If you find one false, say at which input.
  Laid BY PROGRAM, IN A SANDBOX (cutbox-rows.mjs): the forced cells as the released guide's own fill.sh prints them over the translation f85d38f933323cad… (all of the seat's roots in one cut). By AI agents, Wed Nov 11 2026. No macro, syntax, notation, axiom, sorry.
-/
import Derived.Test.YtmnaggdhkggjhaaChecked
import GoSem.Claim
import GoSem.ClaimJoined
import GoSem.ClaimMapViews
import Derived.JoinedTies
import Derived.KernelRfl
namespace Go.Proofs.Ytmnaggdhkggjhaa
/- THE CELL 'sum', in the pinned program and in every row, IS THE sha256 OF THE DUMP (.gsa) THAT YtmnaggdhkggjhaaProg.lean LOADS. Nothing in Lean hashes anything: it is a label: what it is worth is what the hold of that sum in a sandbox is worth. -/
noncomputable def Try.pinned : Pinned := { name := "ytmnaggdhkggjhaa", sum := "f85d38f933323cad46b5f27f8a2fda2bcd7c2df7d4b3f547d67b83ef5176a144", checked := Try.checked }
namespace Rows
def none {H : Type} : Left H := { results := [], args := [] }

/-- 'shelfmarklaw17.OnceKeeps': WHATEVER THE INPUT: true; the input reads as it did. -/
def onceKeepsSpec : ChangeSpec := { name := "onceKeeps", fn := fun _ => fun
  | [d1, d2, d3] => { results := [.lit (.bool true)], args := [d1, d2, d3] }
  | _ => none }
def onceKeepsRow : OpenClaim := { program := "ytmnaggdhkggjhaa", sum := "f85d38f933323cad46b5f27f8a2fda2bcd7c2df7d4b3f547d67b83ef5176a144", func := "shelfmark/shelfmarklaw17.OnceKeeps", spec := "onceKeeps", unfollowed := true, recurses := true, apart := false }
def OnceKeepsSaid : Prop := onceKeepsRow.holds Try.pinned (OpenSpec.ofChange onceKeepsSpec)

/-- ITS FALSE NEIGHBOUR: 'it returns false'. Refute it at one input. -/
def onceKeepsWrong : ChangeSpec := { name := "onceKeeps", fn := fun _ => fun
  | [d1, d2, d3] => { results := [.lit (.bool false)], args := [d1, d2, d3] }
  | _ => none }
def OnceKeepsWrongFalsely : Prop := onceKeepsRow.holds Try.pinned (OpenSpec.ofChange onceKeepsWrong)

/-- 'shelfmarklaw17.OncePlays': WHATEVER THE INPUT: true; the input reads as it did. -/
def oncePlaysSpec : ChangeSpec := { name := "oncePlays", fn := fun _ => fun
  | [d] => { results := [.lit (.bool true)], args := [d] }
  | _ => none }
def oncePlaysRow : OpenClaim := { program := "ytmnaggdhkggjhaa", sum := "f85d38f933323cad46b5f27f8a2fda2bcd7c2df7d4b3f547d67b83ef5176a144", func := "shelfmark/shelfmarklaw17.OncePlays", spec := "oncePlays", unfollowed := true, recurses := true, apart := false }
def OncePlaysSaid : Prop := oncePlaysRow.holds Try.pinned (OpenSpec.ofChange oncePlaysSpec)

/-- ITS FALSE NEIGHBOUR: 'it returns false'. Refute it at one input. -/
def oncePlaysWrong : ChangeSpec := { name := "oncePlays", fn := fun _ => fun
  | [d] => { results := [.lit (.bool false)], args := [d] }
  | _ => none }
def OncePlaysWrongFalsely : Prop := oncePlaysRow.holds Try.pinned (OpenSpec.ofChange oncePlaysWrong)

/-- 'shelfmarklaw17.OnceApart': WHATEVER THE INPUT: true; the input reads as it did. -/
def onceApartSpec : ChangeSpec := { name := "onceApart", fn := fun _ => fun
  | [d1, d2] => { results := [.lit (.bool true)], args := [d1, d2] }
  | _ => none }
def onceApartRow : OpenClaim := { program := "ytmnaggdhkggjhaa", sum := "f85d38f933323cad46b5f27f8a2fda2bcd7c2df7d4b3f547d67b83ef5176a144", func := "shelfmark/shelfmarklaw17.OnceApart", spec := "onceApart", unfollowed := true, recurses := true, apart := false }
def OnceApartSaid : Prop := onceApartRow.holds Try.pinned (OpenSpec.ofChange onceApartSpec)

/-- ITS FALSE NEIGHBOUR: 'it returns false'. Refute it at one input. -/
def onceApartWrong : ChangeSpec := { name := "onceApart", fn := fun _ => fun
  | [d1, d2] => { results := [.lit (.bool false)], args := [d1, d2] }
  | _ => none }
def OnceApartWrongFalsely : Prop := onceApartRow.holds Try.pinned (OpenSpec.ofChange onceApartWrong)

/-- 'shelfmarklaw17.OnceNever': WHATEVER THE INPUT: true; the input reads as it did. -/
def onceNeverSpec : ChangeSpec := { name := "onceNever", fn := fun _ => fun
  | [d] => { results := [.lit (.bool true)], args := [d] }
  | _ => none }
def onceNeverRow : OpenClaim := { program := "ytmnaggdhkggjhaa", sum := "f85d38f933323cad46b5f27f8a2fda2bcd7c2df7d4b3f547d67b83ef5176a144", func := "shelfmark/shelfmarklaw17.OnceNever", spec := "onceNever", unfollowed := true, recurses := true, apart := false }
def OnceNeverSaid : Prop := onceNeverRow.holds Try.pinned (OpenSpec.ofChange onceNeverSpec)

/-- ITS FALSE NEIGHBOUR: 'it returns false'. Refute it at one input. -/
def onceNeverWrong : ChangeSpec := { name := "onceNever", fn := fun _ => fun
  | [d] => { results := [.lit (.bool false)], args := [d] }
  | _ => none }
def OnceNeverWrongFalsely : Prop := onceNeverRow.holds Try.pinned (OpenSpec.ofChange onceNeverWrong)

/-- 'shelfmarklaw17.OnceJoins': WHATEVER THE INPUT: true; the input reads as it did. -/
def onceJoinsSpec : ChangeSpec := { name := "onceJoins", fn := fun _ => fun
  | [d] => { results := [.lit (.bool true)], args := [d] }
  | _ => none }
def onceJoinsRow : OpenClaim := { program := "ytmnaggdhkggjhaa", sum := "f85d38f933323cad46b5f27f8a2fda2bcd7c2df7d4b3f547d67b83ef5176a144", func := "shelfmark/shelfmarklaw17.OnceJoins", spec := "onceJoins", unfollowed := true, recurses := true, apart := false }
def OnceJoinsSaid : Prop := onceJoinsRow.holds Try.pinned (OpenSpec.ofChange onceJoinsSpec)

/-- ITS FALSE NEIGHBOUR: 'it returns false'. Refute it at one input. -/
def onceJoinsWrong : ChangeSpec := { name := "onceJoins", fn := fun _ => fun
  | [d] => { results := [.lit (.bool false)], args := [d] }
  | _ => none }
def OnceJoinsWrongFalsely : Prop := onceJoinsRow.holds Try.pinned (OpenSpec.ofChange onceJoinsWrong)

/- THE SECOND FORM. 'bulk': how many values and letters a reading holds, each counted each time it is reached (what is shared counts as often as it is met; a slice's spare places count too). A statement '..UptoSaid' is the law's where the arguments, and the package variables that the reading takes, are together of bulk at most 1048576: NARROWER than '..Said'. Prove '..Said' where nothing that the law and all that it calls make is longer than what came in: it says more and counts as full. Else prove '..UptoSaid'. A law counts once. -/
mutual
def uptoBulk {H : Type} : DataW H → Nat
  | .lit (.string bytes) => bytes.length + 1
  | .lit _ => 1
  | .nil => 1
  | .ptr d => uptoBulk d + 1
  | .slice elems spare => uptoBulkAll elems + uptoBulkAll spare + 1
  | .agg parts => uptoBulkAll parts + 1
  | .iface _ d => uptoBulk d + 1
  | .map entries => uptoBulkEntries entries + 1
  | .held _ => 1
def uptoBulkAll {H : Type} : List (DataW H) → Nat
  | [] => 0
  | d :: r => uptoBulk d + uptoBulkAll r
def uptoBulkEntries {H : Type} : List (Lit × DataW H) → Nat
  | [] => 0
  | x :: r => uptoBulkEntry x + uptoBulkEntries r
def uptoBulkEntry {H : Type} : Lit × DataW H → Nat
  | (.string bytes, d) => bytes.length + uptoBulk d + 1
  | (_, d) => uptoBulk d + 1
 end
def uptoSmall : (H : Type) → List (DataW H) → Bool := fun _ ds => decide (uptoBulkAll ds ≤ 1048576)
def OpenSpec.upto (s : _root_.Go.ChangeSpec) : _root_.Go.OpenSpec := { _root_.Go.OpenSpec.ofChange s with cond := some uptoSmall }

/-- 'shelfmarklaw17.OnceKeeps', WHERE WHAT IT READS IS OF BULK AT MOST 1048576: true; the input reads as it did. -/
def onceKeepsUptoRow : OpenClaim := { program := "ytmnaggdhkggjhaa", sum := "f85d38f933323cad46b5f27f8a2fda2bcd7c2df7d4b3f547d67b83ef5176a144", func := "shelfmark/shelfmarklaw17.OnceKeeps", spec := "onceKeeps", unfollowed := true, recurses := true, apart := false, narrowed := true }
def OnceKeepsUptoSaid : Prop := onceKeepsUptoRow.holds Try.pinned (OpenSpec.upto onceKeepsSpec)

/-- 'shelfmarklaw17.OncePlays', WHERE WHAT IT READS IS OF BULK AT MOST 1048576: true; the input reads as it did. -/
def oncePlaysUptoRow : OpenClaim := { program := "ytmnaggdhkggjhaa", sum := "f85d38f933323cad46b5f27f8a2fda2bcd7c2df7d4b3f547d67b83ef5176a144", func := "shelfmark/shelfmarklaw17.OncePlays", spec := "oncePlays", unfollowed := true, recurses := true, apart := false, narrowed := true }
def OncePlaysUptoSaid : Prop := oncePlaysUptoRow.holds Try.pinned (OpenSpec.upto oncePlaysSpec)

/-- 'shelfmarklaw17.OnceApart', WHERE WHAT IT READS IS OF BULK AT MOST 1048576: true; the input reads as it did. -/
def onceApartUptoRow : OpenClaim := { program := "ytmnaggdhkggjhaa", sum := "f85d38f933323cad46b5f27f8a2fda2bcd7c2df7d4b3f547d67b83ef5176a144", func := "shelfmark/shelfmarklaw17.OnceApart", spec := "onceApart", unfollowed := true, recurses := true, apart := false, narrowed := true }
def OnceApartUptoSaid : Prop := onceApartUptoRow.holds Try.pinned (OpenSpec.upto onceApartSpec)

/-- 'shelfmarklaw17.OnceNever', WHERE WHAT IT READS IS OF BULK AT MOST 1048576: true; the input reads as it did. -/
def onceNeverUptoRow : OpenClaim := { program := "ytmnaggdhkggjhaa", sum := "f85d38f933323cad46b5f27f8a2fda2bcd7c2df7d4b3f547d67b83ef5176a144", func := "shelfmark/shelfmarklaw17.OnceNever", spec := "onceNever", unfollowed := true, recurses := true, apart := false, narrowed := true }
def OnceNeverUptoSaid : Prop := onceNeverUptoRow.holds Try.pinned (OpenSpec.upto onceNeverSpec)

/-- 'shelfmarklaw17.OnceJoins', WHERE WHAT IT READS IS OF BULK AT MOST 1048576: true; the input reads as it did. -/
def onceJoinsUptoRow : OpenClaim := { program := "ytmnaggdhkggjhaa", sum := "f85d38f933323cad46b5f27f8a2fda2bcd7c2df7d4b3f547d67b83ef5176a144", func := "shelfmark/shelfmarklaw17.OnceJoins", spec := "onceJoins", unfollowed := true, recurses := true, apart := false, narrowed := true }
def OnceJoinsUptoSaid : Prop := onceJoinsUptoRow.holds Try.pinned (OpenSpec.upto onceJoinsSpec)

end Rows
end Go.Proofs.Ytmnaggdhkggjhaa
